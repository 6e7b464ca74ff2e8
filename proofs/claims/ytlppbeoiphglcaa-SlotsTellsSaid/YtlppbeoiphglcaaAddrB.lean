/- Texts that stand together: PutKit, AddrKit, RValid, Round. -/
import Derived.Test.YtlppbeoiphglcaaBase
import Derived.Test.YtlppbeoiphglcaaProg
section
/- Numbers put into bytes. -/
set_option autoImplicit false
set_option linter.unusedVariables false
set_option linter.unusedSimpArgs false
namespace Go.Abs
variable {P : Program}

def bigR (v : Int) : Nat → List UInt8
  | 0 => []
  | n + 1 => u8i (v.fdiv (256 ^ n)) :: bigR v n
@[simp] theorem bigR_length (v : Int) : ∀ n, (bigR v n).length = n
  | 0 => rfl
  | n + 1 => by simp [bigR, bigR_length v n]

def putR (l : List UInt8) (p : Int) (sz : Nat) (v : Int) : List UInt8 := if 0 ≤ p ∧ p + sz ≤ (l.length : Int) then l.take p.toNat ++ bigR v sz ++ l.drop (p.toNat + sz) else l
@[simp] theorem putR_length (l : List UInt8) (p : Int) (sz : Nat) (v : Int) : (putR l p sz v).length = l.length := by
  unfold putR
  split
  · simp; omega
  · rfl

@[simp] theorem intV_some (k : IntKind) (n : Int) : intV (some (.int k n)) = n := rfl
@[simp] theorem boolV_some (b : Bool) : boolV (some (.bool b)) = b := rfl
@[simp] theorem isIntV_some (k : IntKind) (n : Int) : isIntV k (some (.int k n)) = true := by simp [isIntV]
@[simp] theorem byteD_u8 (k : IntKind) (x : UInt8) : byteD (.int k ((x.toNat : Nat) : Int)) = x := by simp [byteD]
end Go.Abs

end

section
/- Addresses as values; bytes at places. -/
set_option autoImplicit false
set_option linter.unusedVariables false
set_option linter.unusedSimpArgs false
namespace Go.Abs
variable {P : Program}

def adrV (v : Bool) (x0 x1 x2 x3 x4 x5 x6 x7 x8 x9 x10 x11 x12 x13 x14 x15 : Int) : List AV :=
  [.bool v, .int .u8 x0, .int .u8 x1, .int .u8 x2, .int .u8 x3, .int .u8 x4, .int .u8 x5, .int .u8 x6, .int .u8 x7, .int .u8 x8, .int .u8 x9, .int .u8 x10, .int .u8 x11, .int .u8 x12, .int .u8 x13, .int .u8 x14, .int .u8 x15]
mutual
@[simp] theorem AV.beq_self : ∀ a : AV, a.beq a = true
  | .any => rfl
  | .bool b => by simp [AV.beq]
  | .int k n => by simp [AV.beq]
  | .str s => by simp [AV.beq]
  | .ptr a => by simp [AV.beq]
  | .sl a l c e => by simp [AV.beq]
  | .map r => by simp [AV.beq]
  | .fn f c => by simp [AV.beq, AV.beqs_self c]
  | .nilFn => rfl
  | .agg l => by simp [AV.beq, AV.beqs_self l]
  | .tup l => by simp [AV.beq, AV.beqs_self l]
@[simp] theorem AV.beqs_self : ∀ l : List AV, AV.beqs l l = true
  | [] => rfl
  | a :: l => by simp [AV.beqs, AV.beq_self a, AV.beqs_self l]
end

def db3 (n : Int) : Int := 1 + n % 200
def dport (n : Int) : Int := 8000 + n % 1000
def isZeroV : AV → Bool
  | .int _ n => decide (n = 0)
  | _ => false
@[simp] theorem isZeroV_int (k : IntKind) (n : Int) : isZeroV (.int k n) = decide (n = 0) := rfl

def adrValid : List AV → Bool
  | .bool v :: xs => match v with
    | true => true
    | false => (xs.drop 4).all isZeroV
  | _ => false

end Go.Abs

end

section
/- bazaar/bazaarref1.Valid. -/
set_option autoImplicit false
set_option maxRecDepth 100000
set_option linter.unusedVariables false
set_option linter.unusedSimpArgs false
namespace Go.Proofs.Ytlppbeoiphglcaa.L
open Go Go.Abs
open Go.IntKind
open Go.Abs.AV (int)
open Go.Abs.ABlk (cells)

theorem nfRValidT {R : Type} (x0 x1 x2 x3 x4 x5 x6 x7 x8 x9 x10 x11 x12 x13 x14 x15 : Int) (K : AV → Option R) :
 qrun Try.prog [] 100 6 [] [] 27 [.agg (adrV true x0 x1 x2 x3 x4 x5 x6 x7 x8 x9 x10 x11 x12 x13 x14 x15)] [] (fun v _ => K v) =
 K (AV.bool true) := by
  kernel_rfl

theorem nfRValidF {R : Type} (x0 x1 x2 x3 x4 x5 x6 x7 x8 x9 x10 x11 x12 x13 x14 x15 : Int) (K : AV → Option R) :
 qrun Try.prog [] 100 6 [] [] 27 [.agg (adrV false x0 x1 x2 x3 x4 x5 x6 x7 x8 x9 x10 x11 x12 x13 x14 x15)] [] (fun v _ => K v) =
 (if (intV (some (int u8 x4)) != 0) = true then
 K (AV.bool false)
 else (if (intV (some (int u8 x5)) != 0) = true then
 K (AV.bool false)
 else (if (intV (some (int u8 x6)) != 0) = true then
 K (AV.bool false)
 else (if (intV (some (int u8 x7)) != 0) = true then
 K (AV.bool false)
 else (if (intV (some (int u8 x8)) != 0) = true then
 K (AV.bool false)
 else (if (intV (some (int u8 x9)) != 0) = true then
 K (AV.bool false)
 else (if (intV (some (int u8 x10)) != 0) = true then
 K (AV.bool false)
 else (if (intV (some (int u8 x11)) != 0) = true then
 K (AV.bool false)
 else (if (intV (some (int u8 x12)) != 0) = true then
 K (AV.bool false)
 else (if (intV (some (int u8 x13)) != 0) = true then
 K (AV.bool false)
 else (if (intV (some (int u8 x14)) != 0) = true then
 K (AV.bool false)
 else (if (intV (some (int u8 x15)) != 0) = true then
 K (AV.bool false)
 else K (AV.bool true))))))))))))) := by
  kernel_rfl


end Go.Proofs.Ytlppbeoiphglcaa.L

end

section
/- bazaaralike's Round. -/
set_option autoImplicit false
set_option maxRecDepth 100000
set_option linter.unusedVariables false
namespace Go.Proofs.Ytlppbeoiphglcaa.L
open Go Go.Abs
open Go.IntKind
open Go.Abs.AV (int)
open Go.Abs.ABlk (cells)

end Go.Proofs.Ytlppbeoiphglcaa.L

end
