/- FifoActs' rows: the law itself. -/
import Derived.Test.YtdildbadafdbgaaFifoActsN
set_option autoImplicit false
set_option maxRecDepth 100000
set_option linter.unusedVariables false
namespace Go.Proofs.Ytdildbadafdbgaa.L
open Go Go.Abs
open Go.IntKind
open Go.Abs.AV (int)
open Go.Abs.ABlk (cells)

def vFAi (m : Int) (l : List Int) : List AV := [.int .i64 m, .sl (some (0, 0)) l.length 0 false, .ptr (some (1, 0)), .sl none 0 0 true, .int .i64 0, .int .i64 0]
def hFAi (m : Int) (l : List Int) : AHeap := [farI l, .cells [.int .i64 m, .int .i64 0, .sl none 0 0 true] 3 .own none]
theorem nfFDl {R : Type} (m : Int) (l : List Int) (K : AV → Option R) :
 qrun Try.prog tFA 100 5 [(29, .bool true)] [] 5 [.int .i64 m, .sl (some (0, 0)) l.length 0 false] [farI l] (fun v _ => K v) =
 (if decide ((l.length : Int) > 100) = true then
 K (AV.bool true)
 else none) := by
  kernel_rfl

theorem nfFDb {R : Type} (m : Int) (l : List Int) (K : AV → Option R) :
 qrun Try.prog tFA 100 5 [(29, .bool false), (41, .bool true)] [] 5 [.int .i64 m, .sl (some (0, 0)) l.length 0 false] [farI l] (fun v _ => K v) =
 (if decide ((l.length : Int) > 100) = false then
 (if decide (m < 1) = true then
 (if decide (m < 1) = true then
 K (AV.bool true)
 else (if decide (m > 256) = true then
 K (AV.bool true)
 else none))
 else (if decide (m > 256) = true then
 (if decide (m < 1) = true then
 K (AV.bool true)
 else (if decide (m > 256) = true then
 K (AV.bool true)
 else none))
 else (if decide (m < 1) = true then
 K (AV.bool false)
 else (if decide (m > 256) = true then
 K (AV.bool false)
 else none))))
 else none) := by
  kernel_rfl

noncomputable def hFDm0 (m x : Int) (l : List Int) (o ow n : Nat) (C D : List AV) : AHeap := [cells (List.map (int i64) l) 1 Md.far none, cells [int i64 m, int i64 0, AV.sl none 0 0 true] 3 Md.own none]
noncomputable def hFDm1 (m x : Int) (l : List Int) (o ow n : Nat) (C D : List AV) : AHeap := [cells (List.map (int i64) l) 1 Md.far none, cells [int i64 m, int i64 x, AV.sl (some (2, o)) n 0 false] 3 Md.own none, ABlk.cells C 2 Md.own none, ABlk.cells D 3 Md.own none, cells [AV.str [122]] 1 Md.own none]
noncomputable def hFDm2 (m x : Int) (l : List Int) (o ow n : Nat) (C D : List AV) : AHeap := []
theorem nfFDm {R : Type} (m x : Int) (l : List Int) (o ow n : Nat) (C D : List AV) (K : AV → Option R) :
 qrun Try.prog tFA 100 5 [(29, .bool false), (41, .bool false), (56, .bool false), (284, .bool true)] [(11, fixL mFA0 (vFAi m l) (hFAi m l) (.exit 0) (vFA0 m l 3 ow n x l.length) (hFAq l m x 2 o n C D))] 5 [.int .i64 m, .sl (some (0, 0)) l.length 0 false] [farI l] (fun v _ => K v) =
 (if decide ((l.length : Int) > 100) = false then
 (if decide (m < 1) = true then
 (if decide (m < 1) = true then
 none
 else (if decide (m > 256) = false then
 none
 else none))
 else (if decide (m > 256) = true then
 (if decide (m < 1) = true then
 none
 else (if decide (m > 256) = false then
 none
 else none))
 else (if decide (m < 1) = true then
 none
 else (if decide (m > 256) = false then
 (if cdec ([int i64 m, AV.sl (some (0, 0)) l.length 0 false, AV.ptr (some (1, 0)), AV.sl none 0 0 true, int i64 0, int i64 0] = [int i64 m, AV.sl (some (0, 0)) l.length 0 false, AV.ptr (some (1, 0)), AV.sl none 0 0 true, int i64 0, int i64 0] ∧ (hFDm0 m x l o ow n C D) = (hFDm0 m x l o ow n C D)) = true then
 (if cdec (RIxsi [AV.sl (some (2, o)) n 0 false, AV.fn (Fn.func 40) [AV.ptr (some (4, 0))]] (hFDm1 m x l o ow n C D) (int i64 (intC RIxsi [AV.sl (some (2, o)) n 0 false, AV.fn (Fn.func 40) [AV.ptr (some (4, 0))]] (hFDm1 m x l o ow n C D))) (hFDm2 m x l o ow n C D)) = true then
 (if decide (intC RIxsi [AV.sl (some (2, o)) n 0 false, AV.fn (Fn.func 40) [AV.ptr (some (4, 0))]] (hFDm1 m x l o ow n C D) < 0) = true then
 K (AV.bool true)
 else (if 0 ≤ intC RIxsi [AV.sl (some (2, o)) n 0 false, AV.fn (Fn.func 40) [AV.ptr (some (4, 0))]] (hFDm1 m x l o ow n C D) ∧ intC RIxsi [AV.sl (some (2, o)) n 0 false, AV.fn (Fn.func 40) [AV.ptr (some (4, 0))]] (hFDm1 m x l o ow n C D) < (n : Int) then
 (if isIntV i64 C[o + (intC RIxsi [AV.sl (some (2, o)) n 0 false, AV.fn (Fn.func 40) [AV.ptr (some (4, 0))]] (hFDm1 m x l o ow n C D)).toNat * 2 + 1]? = true then
 none
 else none) else none))
 else none) else none) else none))))
 else none) := by
  kernel_rfl


end Go.Proofs.Ytdildbadafdbgaa.L
