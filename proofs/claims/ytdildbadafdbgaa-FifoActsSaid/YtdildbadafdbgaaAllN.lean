/- bazaarlaw20's all: its rows. -/
import Derived.Test.YtdildbadafdbgaaBase
import Derived.Test.YtdildbadafdbgaaOctB
import Derived.Test.YtdildbadafdbgaaFifoKit
set_option autoImplicit false
set_option maxRecDepth 100000
set_option linter.unusedVariables false
namespace Go.Proofs.Ytdildbadafdbgaa.L
open Go Go.Abs
open Go.IntKind
open Go.Abs.AV (int)
open Go.Abs.ABlk (cells)

def mAl : List Bool := List.replicate 1 true ++ List.replicate 9 false ++ List.replicate 3 true ++ List.replicate 11 false
noncomputable abbrev AL := loopIn (bodyOf Try.prog 41) 0
noncomputable abbrev RNG := rangeIn (bodyOf Try.prog 25) 0
noncomputable def lpAl (m : Int) (st : LoopState) (pend : Option AEx) : ALoop := { st := st, pend := pend, env := [AV.ptr (some (0, 0)), int i64 m, AV.tup [], AV.ptr (some (2, 0)), AV.sl none 0 0 true, AV.ptr (some (3, 0)), AV.fn (Fn.func 41) [AV.ptr (some (4, 0))], AV.tup [], AV.tup [], AV.ptr (some (0, 0)), AV.fn (Fn.func 41) [AV.ptr (some (4, 0))], AV.fn (Fn.func 41) [AV.ptr (some (4, 0))], AV.bool false, AV.fn (Fn.func 41) [AV.ptr (some (4, 0))]] ++ List.replicate 13 (AV.tup []), ps := [14, 15], asg := RNG.1, body := RNG.2 }
def hQ (a b : Int) (n : Nat) (C : List AV) : AHeap := [.cells [.int .i64 a, .int .i64 b, .sl (some (1, 0)) n 0 false] 3 .far none, .cells C 2 .far none]
noncomputable def hAl0 (a b m : Int) (n : Nat) (C : List AV) : AHeap := hQ a b n C ++ [.cells [.int .i64 m] 1 .own none, .cells [.sl none 0 0 true] 1 .own none, .cells [.ptr (some (0, 0))] 1 .own none, .lp (lpAl m .ready none)]
noncomputable def hAl (a b m : Int) (n : Nat) (C : List AV) (k : Nat) (I : List AV) (st : LoopState) (pend : Option AEx) : AHeap := hQ a b n C ++ [.cells [.int .i64 m] 1 .own none, .cells [.sl (some (6, 0)) k 0 false] 1 .own none, .cells [.ptr (some (0, 0))] 1 .own none, .lp (lpAl m st pend), .cells I 3 .own none]
def vAl (n : Nat) (i : Int) : List AV := [.fn (.yield 5) [], .sl (some (1, 0)) n 0 false, .int .i64 n, .int .i64 i]

noncomputable def hAlc0 (a b m i : Int) (n k : Nat) (C I : List AV) : AHeap := [cells [int i64 a, int i64 b, AV.sl (some (1, 0)) n 0 false] 3 Md.far none, ABlk.cells C 2 Md.far none, cells [int i64 m] 1 Md.own none, cells [AV.sl (some (9, 0)) (k + 1) 0 false] 1 Md.own none, cells [AV.ptr (some (0, 0))] 1 Md.own none, .lp ({ st := LoopState.ready, pend := none, env := [AV.ptr (some (0, 0)), int i64 m, AV.tup [], AV.ptr (some (2, 0)), AV.sl none 0 0 true, AV.ptr (some (3, 0)), AV.fn (Fn.func 41) [AV.ptr (some (4, 0))], AV.tup [], AV.tup [], AV.ptr (some (0, 0)), AV.fn (Fn.func 41) [AV.ptr (some (4, 0))], AV.fn (Fn.func 41) [AV.ptr (some (4, 0))], AV.bool false, AV.fn (Fn.func 41) [AV.ptr (some (4, 0))], AV.tup [], AV.tup [], AV.tup [], AV.tup [], AV.tup [], AV.tup [], AV.tup [], AV.tup [], AV.tup [], AV.tup [], AV.tup [], AV.tup [], AV.tup []], ps := [14, 15], asg := RNG.1, body := RNG.2 } : ALoop), ABlk.cells I 3 Md.ro none, cells (putCells [AV.str [], int i64 0] 0 (List.take 2 (List.drop (0 + i.toNat * 2) C))) 2 Md.own none, cells [AV.str (strV (putCells [AV.str [], int i64 0] 0 (List.take 2 (List.drop (0 + i.toNat * 2) C)))[0]?), int i64 (intV (putCells [AV.str [], int i64 0] 0 (List.take 2 (List.drop (0 + i.toNat * 2) C)))[1]?), int i64 0] 3 Md.own none, cells (List.take (k * 3) I ++ [AV.str (strV (putCells [AV.str [], int i64 0] 0 (List.take 2 (List.drop (0 + i.toNat * 2) C)))[0]?), int i64 (intV (putCells [AV.str [], int i64 0] 0 (List.take 2 (List.drop (0 + i.toNat * 2) C)))[1]?), int i64 0]) 3 Md.own (some 6)]
theorem nfAlc (a b m i : Int) (n k : Nat) (C I : List AV) :
 qround Try.prog [] 100 4 [(13, .bool true), (22, .bool false)] noT AL mAl (vAl n i) (hAl a b m n C k I .ready none) =
 (if decide (i < (n : Int)) = true then
 (if 0 ≤ i ∧ i < (n : Int) then
 (if 0 + i.toNat * 2 + 2 ≤ C.length then
 (if (List.take 2 (List.drop (0 + i.toNat * 2) C)).length = 2 then
 (if 0 + (List.take 2 (List.drop (0 + i.toNat * 2) C)).length ≤ 2 ∧ (List.take 2 (List.drop (0 + i.toNat * 2) C)).all AV.isCell = true then
 (if isStrV (putCells [AV.str [], int i64 0] 0 (List.take 2 (List.drop (0 + i.toNat * 2) C)))[0]? = true then
 (if isIntV i64 (putCells [AV.str [], int i64 0] 0 (List.take 2 (List.drop (0 + i.toNat * 2) C)))[1]? = true then
 (if ((k : Int) == intV (some (int i64 m))) = true then
 none
 else (if (2 * (k + 1) + 200) * 32 ≤ 281474976710656 ∧ some 3 = some 3 ∧ k + 1 ≤ 70368744177664 then
 (if 0 + k * 3 ≤ I.length then
 (if 0 = 0 ∧ 0 + k * 3 = I.length ∧ (0 < 1 ∨ 0 = 0) ∧ 3 = 3 ∧ [AV.str (strV (putCells [AV.str [], int i64 0] 0 (List.take 2 (List.drop (0 + i.toNat * 2) C)))[0]?), int i64 (intV (putCells [AV.str [], int i64 0] 0 (List.take 2 (List.drop (0 + i.toNat * 2) C)))[1]?), int i64 0].all AV.isCell = true then
 some ((AEx.norm, [AV.fn (Fn.yield 5) [], AV.sl (some (1, 0)) n 0 false, int i64 (n : Int), int i64 (i64.wrap (i + 1))], (hAlc0 a b m i n k C I)))
 else none) else none) else none))
 else none) else none) else none) else none) else none) else none) else none) := by
  kernel_rfl

noncomputable def hAlb0 (a b m i : Int) (n k : Nat) (C I : List AV) : AHeap := [cells [int i64 a, int i64 b, AV.sl (some (1, 0)) n 0 false] 3 Md.far none, ABlk.cells C 2 Md.far none, cells [int i64 m] 1 Md.own none, cells [AV.sl (some (6, 0)) k 0 false] 1 Md.own none, cells [AV.ptr (some (0, 0))] 1 Md.own none, .lp ({ st := LoopState.done, pend := some (AEx.exit 0), env := [AV.ptr (some (0, 0)), int i64 m, AV.tup [], AV.ptr (some (2, 0)), AV.sl none 0 0 true, AV.ptr (some (3, 0)), AV.fn (Fn.func 41) [AV.ptr (some (4, 0))], AV.tup [], AV.tup [], AV.ptr (some (0, 0)), AV.fn (Fn.func 41) [AV.ptr (some (4, 0))], AV.fn (Fn.func 41) [AV.ptr (some (4, 0))], AV.bool false, AV.fn (Fn.func 41) [AV.ptr (some (4, 0))], AV.tup [], AV.tup [], AV.tup [], AV.tup [], AV.tup [], AV.tup [], AV.tup [], AV.tup [], AV.tup [], AV.tup [], AV.tup [], AV.tup [], AV.tup []], ps := [14, 15], asg := RNG.1, body := RNG.2 } : ALoop), ABlk.cells I 3 Md.own none, cells (putCells [AV.str [], int i64 0] 0 (List.take 2 (List.drop (0 + i.toNat * 2) C))) 2 Md.own none]
theorem nfAlb (a b m i : Int) (n k : Nat) (C I : List AV) :
 qround Try.prog [] 100 4 [(13, .bool true), (22, .bool true)] noT AL mAl (vAl n i) (hAl a b m n C k I .ready none) =
 (if decide (i < (n : Int)) = true then
 (if 0 ≤ i ∧ i < (n : Int) then
 (if 0 + i.toNat * 2 + 2 ≤ C.length then
 (if (List.take 2 (List.drop (0 + i.toNat * 2) C)).length = 2 then
 (if 0 + (List.take 2 (List.drop (0 + i.toNat * 2) C)).length ≤ 2 ∧ (List.take 2 (List.drop (0 + i.toNat * 2) C)).all AV.isCell = true then
 (if isStrV (putCells [AV.str [], int i64 0] 0 (List.take 2 (List.drop (0 + i.toNat * 2) C)))[0]? = true then
 (if isIntV i64 (putCells [AV.str [], int i64 0] 0 (List.take 2 (List.drop (0 + i.toNat * 2) C)))[1]? = true then
 (if ((k : Int) == intV (some (int i64 m))) = true then
 some ((AEx.ret, [AV.fn (Fn.yield 5) [], AV.sl (some (1, 0)) n 0 false, int i64 (n : Int), int i64 i], (hAlb0 a b m i n k C I)))
 else (if (2 * (k + 1) + 200) * 32 ≤ 281474976710656 ∧ some 3 = some 3 ∧ k + 1 ≤ 70368744177664 then
 (if 0 + k * 3 ≤ I.length then
 (if 0 = 0 ∧ 0 + k * 3 = I.length ∧ (0 < 1 ∨ 0 = 0) ∧ 3 = 3 ∧ [AV.str (strV (putCells [AV.str [], int i64 0] 0 (List.take 2 (List.drop (0 + i.toNat * 2) C)))[0]?), int i64 (intV (putCells [AV.str [], int i64 0] 0 (List.take 2 (List.drop (0 + i.toNat * 2) C)))[1]?), int i64 0].all AV.isCell = true then
 none
 else none) else none) else none))
 else none) else none) else none) else none) else none) else none) else none) := by
  kernel_rfl

noncomputable def hAls0 (a b m i : Int) (n k : Nat) (C I : List AV) : AHeap := [cells [int i64 a, int i64 b, AV.sl (some (1, 0)) n 0 false] 3 Md.far none, ABlk.cells C 2 Md.far none, cells [int i64 m] 1 Md.own none, cells [AV.sl (some (6, 0)) k 0 false] 1 Md.own none, cells [AV.ptr (some (0, 0))] 1 Md.own none, .lp ({ st := LoopState.ready, pend := none, env := [AV.ptr (some (0, 0)), int i64 m, AV.tup [], AV.ptr (some (2, 0)), AV.sl none 0 0 true, AV.ptr (some (3, 0)), AV.fn (Fn.func 41) [AV.ptr (some (4, 0))], AV.tup [], AV.tup [], AV.ptr (some (0, 0)), AV.fn (Fn.func 41) [AV.ptr (some (4, 0))], AV.fn (Fn.func 41) [AV.ptr (some (4, 0))], AV.bool false, AV.fn (Fn.func 41) [AV.ptr (some (4, 0))], AV.tup [], AV.tup [], AV.tup [], AV.tup [], AV.tup [], AV.tup [], AV.tup [], AV.tup [], AV.tup [], AV.tup [], AV.tup [], AV.tup [], AV.tup []], ps := [14, 15], asg := RNG.1, body := RNG.2 } : ALoop), ABlk.cells I 3 Md.own none]
theorem nfAls (a b m i : Int) (n k : Nat) (C I : List AV) :
 qround Try.prog [] 100 4 [(13, .bool false)] noT AL mAl (vAl n i) (hAl a b m n C k I .ready none) =
 (if decide (i < (n : Int)) = false then
 some ((AEx.exit 0, [AV.fn (Fn.yield 5) [], AV.sl (some (1, 0)) n 0 false, int i64 (n : Int), int i64 i], (hAls0 a b m i n k C I)))
 else none) := by
  kernel_rfl

noncomputable def hAlNe0 (a b m i : Int) (n k : Nat) (C I : List AV) : AHeap := [cells [int i64 a, int i64 b, AV.sl (some (1, 0)) n 0 false] 3 Md.far none, ABlk.cells C 2 Md.far none, cells [int i64 m] 1 Md.own none, cells [AV.sl none 0 0 true] 1 Md.own none, cells [AV.ptr (some (0, 0))] 1 Md.own none, .lp ({ st := LoopState.ready, pend := none, env := [AV.ptr (some (0, 0)), int i64 m, AV.tup [], AV.ptr (some (2, 0)), AV.sl none 0 0 true, AV.ptr (some (3, 0)), AV.fn (Fn.func 41) [AV.ptr (some (4, 0))], AV.tup [], AV.tup [], AV.ptr (some (0, 0)), AV.fn (Fn.func 41) [AV.ptr (some (4, 0))], AV.fn (Fn.func 41) [AV.ptr (some (4, 0))], AV.bool false, AV.fn (Fn.func 41) [AV.ptr (some (4, 0))], AV.tup [], AV.tup [], AV.tup [], AV.tup [], AV.tup [], AV.tup [], AV.tup [], AV.tup [], AV.tup [], AV.tup [], AV.tup [], AV.tup [], AV.tup []], ps := [14, 15], asg := RNG.1, body := RNG.2 } : ALoop)]
noncomputable def hAlNe1 (a b m i : Int) (n k : Nat) (C I : List AV) : AHeap := [cells [int i64 a, int i64 b, AV.sl (some (1, 0)) n 0 false] 3 Md.far none, ABlk.cells C 2 Md.far none, cells [int i64 m] 1 Md.own none, cells [AV.sl (some (6, 0)) k 0 false] 1 Md.own none, cells [AV.ptr (some (0, 0))] 1 Md.own none, .lp ({ st := LoopState.ready, pend := none, env := [AV.ptr (some (0, 0)), int i64 m, AV.tup [], AV.ptr (some (2, 0)), AV.sl none 0 0 true, AV.ptr (some (3, 0)), AV.fn (Fn.func 41) [AV.ptr (some (4, 0))], AV.tup [], AV.tup [], AV.ptr (some (0, 0)), AV.fn (Fn.func 41) [AV.ptr (some (4, 0))], AV.fn (Fn.func 41) [AV.ptr (some (4, 0))], AV.bool false, AV.fn (Fn.func 41) [AV.ptr (some (4, 0))], AV.tup [], AV.tup [], AV.tup [], AV.tup [], AV.tup [], AV.tup [], AV.tup [], AV.tup [], AV.tup [], AV.tup [], AV.tup [], AV.tup [], AV.tup []], ps := [14, 15], asg := RNG.1, body := RNG.2 } : ALoop), ABlk.cells I 3 Md.own none]
theorem nfAlNe {R : Type} (a b m i : Int) (n k : Nat) (C I : List AV) (K : AV → AHeap → Option R) :
 qrun Try.prog [] 100 4 [] [(2, fixL mAl (vAl n 0) (hAl0 a b m n C) (.exit 0) (vAl n i) (hAl a b m n C k I .ready none))] 41 [.fn (.yield 5) [], .ptr (some (4, 0))] (hAl0 a b m n C) K =
 (if cdec ([AV.fn (Fn.yield 5) [], AV.sl (some (1, 0)) n 0 false, int i64 (n : Int), int i64 0] = [AV.fn (Fn.yield 5) [], AV.sl (some (1, 0)) n 0 false, int i64 (n : Int), int i64 0] ∧ (hAlNe0 a b m i n k C I) = (hAlNe0 a b m i n k C I)) = true then
 K (AV.tup []) ((hAlNe1 a b m i n k C I))
 else none) := by
  kernel_rfl

noncomputable def hAlMe0 (a b m : Int) (n k : Nat) (C I : List AV) : AHeap := [cells [int i64 a, int i64 b, AV.sl (some (1, 0)) n 0 false] 3 Md.far none, ABlk.cells C 2 Md.far none, cells [int i64 m] 1 Md.own none, cells [AV.sl none 0 0 true] 1 Md.own none, cells [AV.ptr (some (0, 0))] 1 Md.own none, .lp ({ st := LoopState.ready, pend := none, env := [AV.ptr (some (0, 0)), int i64 m, AV.tup [], AV.ptr (some (2, 0)), AV.sl none 0 0 true, AV.ptr (some (3, 0)), AV.fn (Fn.func 41) [AV.ptr (some (4, 0))], AV.tup [], AV.tup [], AV.ptr (some (0, 0)), AV.fn (Fn.func 41) [AV.ptr (some (4, 0))], AV.fn (Fn.func 41) [AV.ptr (some (4, 0))], AV.bool false, AV.fn (Fn.func 41) [AV.ptr (some (4, 0))], AV.tup [], AV.tup [], AV.tup [], AV.tup [], AV.tup [], AV.tup [], AV.tup [], AV.tup [], AV.tup [], AV.tup [], AV.tup [], AV.tup [], AV.tup []], ps := [14, 15], asg := RNG.1, body := RNG.2 } : ALoop)]
noncomputable def hAlMe1 (a b m : Int) (n k : Nat) (C I : List AV) : AHeap := [cells [int i64 a, int i64 b, AV.sl (some (1, 0)) n 0 false] 3 Md.far none, ABlk.cells C 2 Md.far none, cells [int i64 m] 1 Md.own none, cells [AV.sl (some (6, 0)) k 0 false] 1 Md.own none, cells [AV.ptr (some (0, 0))] 1 Md.own none, .lp ({ st := LoopState.exhausted, pend := none, env := [AV.ptr (some (0, 0)), int i64 m, AV.tup [], AV.ptr (some (2, 0)), AV.sl none 0 0 true, AV.ptr (some (3, 0)), AV.fn (Fn.func 41) [AV.ptr (some (4, 0))], AV.tup [], AV.tup [], AV.ptr (some (0, 0)), AV.fn (Fn.func 41) [AV.ptr (some (4, 0))], AV.fn (Fn.func 41) [AV.ptr (some (4, 0))], AV.bool false, AV.fn (Fn.func 41) [AV.ptr (some (4, 0))], AV.tup [], AV.tup [], AV.tup [], AV.tup [], AV.tup [], AV.tup [], AV.tup [], AV.tup [], AV.tup [], AV.tup [], AV.tup [], AV.tup [], AV.tup []], ps := [14, 15], asg := RNG.1, body := RNG.2 } : ALoop), ABlk.cells I 3 Md.own none]
theorem nfAlMe {R : Type} (a b m : Int) (n k : Nat) (C I : List AV) (K : AV → AHeap → Option R) :
 qrun Try.prog [(41, fixE [.fn (.yield 5) [], .ptr (some (4, 0))] (hAl0 a b m n C) (.tup []) (hAl a b m n C k I .ready none))] 100 4 [] [] 25 [.ptr (some (0, 0)), .int .i64 m] (hQ a b n C) K =
 (if cdec ([AV.fn (Fn.yield 5) [], AV.ptr (some (4, 0))] = [AV.fn (Fn.yield 5) [], AV.ptr (some (4, 0))] ∧ (hAlMe0 a b m n k C I) = (hAlMe0 a b m n k C I)) = true then
 K (AV.sl (some (6, 0)) k 0 false) ((hAlMe1 a b m n k C I))
 else none) := by
  kernel_rfl

noncomputable def hAlNb0 (a b m i : Int) (n k : Nat) (C I : List AV) : AHeap := [cells [int i64 a, int i64 b, AV.sl (some (1, 0)) n 0 false] 3 Md.far none, ABlk.cells C 2 Md.far none, cells [int i64 m] 1 Md.own none, cells [AV.sl none 0 0 true] 1 Md.own none, cells [AV.ptr (some (0, 0))] 1 Md.own none, .lp ({ st := LoopState.ready, pend := none, env := [AV.ptr (some (0, 0)), int i64 m, AV.tup [], AV.ptr (some (2, 0)), AV.sl none 0 0 true, AV.ptr (some (3, 0)), AV.fn (Fn.func 41) [AV.ptr (some (4, 0))], AV.tup [], AV.tup [], AV.ptr (some (0, 0)), AV.fn (Fn.func 41) [AV.ptr (some (4, 0))], AV.fn (Fn.func 41) [AV.ptr (some (4, 0))], AV.bool false, AV.fn (Fn.func 41) [AV.ptr (some (4, 0))], AV.tup [], AV.tup [], AV.tup [], AV.tup [], AV.tup [], AV.tup [], AV.tup [], AV.tup [], AV.tup [], AV.tup [], AV.tup [], AV.tup [], AV.tup []], ps := [14, 15], asg := RNG.1, body := RNG.2 } : ALoop)]
noncomputable def hAlNb1 (a b m i : Int) (n k : Nat) (C I : List AV) : AHeap := [cells [int i64 a, int i64 b, AV.sl (some (1, 0)) n 0 false] 3 Md.far none, ABlk.cells C 2 Md.far none, cells [int i64 m] 1 Md.own none, cells [AV.sl (some (6, 0)) k 0 false] 1 Md.own none, cells [AV.ptr (some (0, 0))] 1 Md.own none, .lp ({ st := LoopState.done, pend := some (AEx.exit 0), env := [AV.ptr (some (0, 0)), int i64 m, AV.tup [], AV.ptr (some (2, 0)), AV.sl none 0 0 true, AV.ptr (some (3, 0)), AV.fn (Fn.func 41) [AV.ptr (some (4, 0))], AV.tup [], AV.tup [], AV.ptr (some (0, 0)), AV.fn (Fn.func 41) [AV.ptr (some (4, 0))], AV.fn (Fn.func 41) [AV.ptr (some (4, 0))], AV.bool false, AV.fn (Fn.func 41) [AV.ptr (some (4, 0))], AV.tup [], AV.tup [], AV.tup [], AV.tup [], AV.tup [], AV.tup [], AV.tup [], AV.tup [], AV.tup [], AV.tup [], AV.tup [], AV.tup [], AV.tup []], ps := [14, 15], asg := RNG.1, body := RNG.2 } : ALoop), ABlk.cells I 3 Md.own none]
theorem nfAlNb {R : Type} (a b m i : Int) (n k : Nat) (C I : List AV) (K : AV → AHeap → Option R) :
 qrun Try.prog [] 100 4 [] [(2, fixL mAl (vAl n 0) (hAl0 a b m n C) .ret (vAl n i) (hAl a b m n C k I .done (some (.exit 0))))] 41 [.fn (.yield 5) [], .ptr (some (4, 0))] (hAl0 a b m n C) K =
 (if cdec ([AV.fn (Fn.yield 5) [], AV.sl (some (1, 0)) n 0 false, int i64 (n : Int), int i64 0] = [AV.fn (Fn.yield 5) [], AV.sl (some (1, 0)) n 0 false, int i64 (n : Int), int i64 0] ∧ (hAlNb0 a b m i n k C I) = (hAlNb0 a b m i n k C I)) = true then
 K (AV.tup []) ((hAlNb1 a b m i n k C I))
 else none) := by
  kernel_rfl

noncomputable def hAlMb0 (a b m : Int) (n k : Nat) (C I : List AV) : AHeap := [cells [int i64 a, int i64 b, AV.sl (some (1, 0)) n 0 false] 3 Md.far none, ABlk.cells C 2 Md.far none, cells [int i64 m] 1 Md.own none, cells [AV.sl none 0 0 true] 1 Md.own none, cells [AV.ptr (some (0, 0))] 1 Md.own none, .lp ({ st := LoopState.ready, pend := none, env := [AV.ptr (some (0, 0)), int i64 m, AV.tup [], AV.ptr (some (2, 0)), AV.sl none 0 0 true, AV.ptr (some (3, 0)), AV.fn (Fn.func 41) [AV.ptr (some (4, 0))], AV.tup [], AV.tup [], AV.ptr (some (0, 0)), AV.fn (Fn.func 41) [AV.ptr (some (4, 0))], AV.fn (Fn.func 41) [AV.ptr (some (4, 0))], AV.bool false, AV.fn (Fn.func 41) [AV.ptr (some (4, 0))], AV.tup [], AV.tup [], AV.tup [], AV.tup [], AV.tup [], AV.tup [], AV.tup [], AV.tup [], AV.tup [], AV.tup [], AV.tup [], AV.tup [], AV.tup []], ps := [14, 15], asg := RNG.1, body := RNG.2 } : ALoop)]
noncomputable def hAlMb1 (a b m : Int) (n k : Nat) (C I : List AV) : AHeap := [cells [int i64 a, int i64 b, AV.sl (some (1, 0)) n 0 false] 3 Md.far none, ABlk.cells C 2 Md.far none, cells [int i64 m] 1 Md.own none, cells [AV.sl (some (6, 0)) k 0 false] 1 Md.own none, cells [AV.ptr (some (0, 0))] 1 Md.own none, .lp ({ st := LoopState.exhausted, pend := some (AEx.exit 0), env := [AV.ptr (some (0, 0)), int i64 m, AV.tup [], AV.ptr (some (2, 0)), AV.sl none 0 0 true, AV.ptr (some (3, 0)), AV.fn (Fn.func 41) [AV.ptr (some (4, 0))], AV.tup [], AV.tup [], AV.ptr (some (0, 0)), AV.fn (Fn.func 41) [AV.ptr (some (4, 0))], AV.fn (Fn.func 41) [AV.ptr (some (4, 0))], AV.bool false, AV.fn (Fn.func 41) [AV.ptr (some (4, 0))], AV.tup [], AV.tup [], AV.tup [], AV.tup [], AV.tup [], AV.tup [], AV.tup [], AV.tup [], AV.tup [], AV.tup [], AV.tup [], AV.tup [], AV.tup []], ps := [14, 15], asg := RNG.1, body := RNG.2 } : ALoop), ABlk.cells I 3 Md.own none]
theorem nfAlMb {R : Type} (a b m : Int) (n k : Nat) (C I : List AV) (K : AV → AHeap → Option R) :
 qrun Try.prog [(41, fixE [.fn (.yield 5) [], .ptr (some (4, 0))] (hAl0 a b m n C) (.tup []) (hAl a b m n C k I .done (some (.exit 0))))] 100 4 [] [] 25 [.ptr (some (0, 0)), .int .i64 m] (hQ a b n C) K =
 (if cdec ([AV.fn (Fn.yield 5) [], AV.ptr (some (4, 0))] = [AV.fn (Fn.yield 5) [], AV.ptr (some (4, 0))] ∧ (hAlMb0 a b m n k C I) = (hAlMb0 a b m n k C I)) = true then
 K (AV.sl (some (6, 0)) k 0 false) ((hAlMb1 a b m n k C I))
 else none) := by
  kernel_rfl


end Go.Proofs.Ytdildbadafdbgaa.L
