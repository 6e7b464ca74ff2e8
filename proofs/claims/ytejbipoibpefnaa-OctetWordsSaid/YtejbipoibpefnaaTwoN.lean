/- bazaarlaw1's two: its rows. -/
import Derived.Test.YtejbipoibpefnaaBase
import Derived.Test.YtejbipoibpefnaaOctB
set_option autoImplicit false
set_option maxRecDepth 100000
set_option linter.unusedVariables false
namespace Go.Proofs.Ytejbipoibpefnaa.L
open Go Go.Abs
open Go.IntKind
open Go.Abs.AV (int)
open Go.Abs.ABlk (cells)

def mWords : List Bool := [true, true, false, true] ++ List.replicate 31 false
noncomputable abbrev WL := loopIn (bodyOf Try.prog 33) 0
noncomputable abbrev RNG := rangeIn (bodyOf Try.prog 22) 0
noncomputable def lpTwo (l : List UInt8) (m : Int) (st : LoopState) (pend : Option AEx) : ALoop := { st := st, pend := pend, env := [AV.sl (some (0, 0)) l.length 0 false, int i64 m, AV.tup [], AV.ptr (some (1, 0)), AV.sl none 0 0 true, AV.sl none 0 0 true, AV.ptr (some (2, 0)), AV.ptr (some (3, 0)), AV.fn (Fn.func 33) [AV.ptr (some (4, 0))], AV.tup [], AV.tup [], AV.sl (some (0, 0)) l.length 0 false, AV.fn (Fn.func 33) [AV.ptr (some (4, 0))], AV.fn (Fn.func 33) [AV.ptr (some (4, 0))], AV.bool false, AV.fn (Fn.func 33) [AV.ptr (some (4, 0))]] ++ List.replicate 16 (AV.tup []), ps := [16, 17], asg := RNG.1, body := RNG.2 }
noncomputable def hTwo (l : List UInt8) (m : Int) (a w : AV) (L : ALoop) (rest : AHeap) : AHeap := [farB l, .cells [.int .i64 m] 1 .own none, .cells [a] 1 .own none, .cells [w] 1 .own none, .cells [slB 0 l] 1 .own none, .lp L] ++ rest
def vW (p : Int) : List AV := [.fn (.yield 5) [], .ptr (some (4, 0)), .int .i64 p]
def slN : AV := .sl none 0 0 true
noncomputable def h2N (l : List UInt8) (m : Int) (st : LoopState) (pend : Option AEx) : AHeap := hTwo l m slN slN (lpTwo l m st pend) []
noncomputable def h2S (l : List UInt8) (m : Int) (i : Nat) (A W : List AV) (st : LoopState) (pend : Option AEx) : AHeap := hTwo l m (.sl (some (6, 0)) i 0 false) (.sl (some (7, 0)) i 0 false) (lpTwo l m st pend) [.cells A 1 .own none, .cells W 1 .own none]

noncomputable def hW000 (l : List UInt8) (m p : Int) : AHeap := [cells (bys l) 1 Md.far none, cells [int i64 m] 1 Md.own none, cells [AV.sl (some (7, 0)) 1 0 false] 1 Md.own none, cells [AV.sl (some (9, 0)) 1 0 false] 1 Md.own none, cells [AV.sl (some (0, 0)) l.length 0 false] 1 Md.own none, .lp ({ st := LoopState.ready, pend := none, env := [AV.sl (some (0, 0)) l.length 0 false, int i64 m, AV.tup [], AV.ptr (some (1, 0)), AV.sl none 0 0 true, AV.sl none 0 0 true, AV.ptr (some (2, 0)), AV.ptr (some (3, 0)), AV.fn (Fn.func 33) [AV.ptr (some (4, 0))], AV.tup [], AV.tup [], AV.sl (some (0, 0)) l.length 0 false, AV.fn (Fn.func 33) [AV.ptr (some (4, 0))], AV.fn (Fn.func 33) [AV.ptr (some (4, 0))], AV.bool false, AV.fn (Fn.func 33) [AV.ptr (some (4, 0))], AV.tup [], AV.tup [], AV.tup [], AV.tup [], AV.tup [], AV.tup [], AV.tup [], AV.tup [], AV.tup [], AV.tup [], AV.tup [], AV.tup [], AV.tup [], AV.tup [], AV.tup [], AV.tup []], ps := [16, 17], asg := RNG.1, body := RNG.2 } : ALoop), cells [int i64 p] 1 Md.own none, cells [int i64 p] 1 Md.own none, cells [int u16 (abits u16 (· ||| ·) (u16.wrap (u16.wrap (intV (bys l)[0 + p.toNat * 1]?) * 256)) (u16.wrap (intV (bys l)[0 + (i64.wrap (p + 1)).toNat * 1]?)))] 1 Md.own none, cells [int u16 (abits u16 (· ||| ·) (u16.wrap (u16.wrap (intV (bys l)[0 + p.toNat * 1]?) * 256)) (u16.wrap (intV (bys l)[0 + (i64.wrap (p + 1)).toNat * 1]?)))] 1 Md.own none]
theorem nfW00 (l : List UInt8) (m p : Int) :
 qround Try.prog [] 100 4 [(8, .bool true), (21, .bool true), (34, .bool false)] noT WL mWords (vW p) (h2N l m .ready none) =
 (if decide (p < (l.length : Int)) = true then
 (if 0 ≤ p ∧ p < (l.length : Int) then
 (if isIntV u8 (bys l)[0 + p.toNat * 1]? = true then
 (if decide (i64.wrap (p + 1) < (l.length : Int)) = true then
 (if 0 ≤ i64.wrap (p + 1) ∧ i64.wrap (p + 1) < (l.length : Int) then
 (if isIntV u8 (bys l)[0 + (i64.wrap (p + 1)).toNat * 1]? = true then
 (if (0 == intV (some (int i64 m))) = true then
 none
 else some ((AEx.norm, [AV.fn (Fn.yield 5) [], AV.ptr (some (4, 0)), int i64 (i64.wrap (p + 2))], (hW000 l m p))))
 else none) else none) else none) else none) else none) else none) := by
  kernel_rfl

noncomputable def hW100 (l : List UInt8) (m p : Int) (i : Nat) (A W : List AV) : AHeap := [cells (bys l) 1 Md.far none, cells [int i64 m] 1 Md.own none, cells [AV.sl (some (9, 0)) (i + 1) 0 false] 1 Md.own none, cells [AV.sl (some (11, 0)) (i + 1) 0 false] 1 Md.own none, cells [AV.sl (some (0, 0)) l.length 0 false] 1 Md.own none, .lp ({ st := LoopState.ready, pend := none, env := [AV.sl (some (0, 0)) l.length 0 false, int i64 m, AV.tup [], AV.ptr (some (1, 0)), AV.sl none 0 0 true, AV.sl none 0 0 true, AV.ptr (some (2, 0)), AV.ptr (some (3, 0)), AV.fn (Fn.func 33) [AV.ptr (some (4, 0))], AV.tup [], AV.tup [], AV.sl (some (0, 0)) l.length 0 false, AV.fn (Fn.func 33) [AV.ptr (some (4, 0))], AV.fn (Fn.func 33) [AV.ptr (some (4, 0))], AV.bool false, AV.fn (Fn.func 33) [AV.ptr (some (4, 0))], AV.tup [], AV.tup [], AV.tup [], AV.tup [], AV.tup [], AV.tup [], AV.tup [], AV.tup [], AV.tup [], AV.tup [], AV.tup [], AV.tup [], AV.tup [], AV.tup [], AV.tup [], AV.tup []], ps := [16, 17], asg := RNG.1, body := RNG.2 } : ALoop), ABlk.cells A 1 Md.ro none, ABlk.cells W 1 Md.ro none, cells [int i64 p] 1 Md.own none, cells (List.take (i * 1) A ++ [int i64 p]) 1 Md.own (some 6), cells [int u16 (abits u16 (· ||| ·) (u16.wrap (u16.wrap (intV (bys l)[0 + p.toNat * 1]?) * 256)) (u16.wrap (intV (bys l)[0 + (i64.wrap (p + 1)).toNat * 1]?)))] 1 Md.own none, cells (List.take (i * 1) W ++ [int u16 (abits u16 (· ||| ·) (u16.wrap (u16.wrap (intV (bys l)[0 + p.toNat * 1]?) * 256)) (u16.wrap (intV (bys l)[0 + (i64.wrap (p + 1)).toNat * 1]?)))]) 1 Md.own (some 7)]
theorem nfW10 (l : List UInt8) (m p : Int) (i : Nat) (A W : List AV) :
 qround Try.prog [] 100 4 [(8, .bool true), (21, .bool true), (34, .bool false)] noT WL mWords (vW p) (h2S l m i A W .ready none) =
 (if decide (p < (l.length : Int)) = true then
 (if 0 ≤ p ∧ p < (l.length : Int) then
 (if isIntV u8 (bys l)[0 + p.toNat * 1]? = true then
 (if decide (i64.wrap (p + 1) < (l.length : Int)) = true then
 (if 0 ≤ i64.wrap (p + 1) ∧ i64.wrap (p + 1) < (l.length : Int) then
 (if isIntV u8 (bys l)[0 + (i64.wrap (p + 1)).toNat * 1]? = true then
 (if ((i : Int) == intV (some (int i64 m))) = true then
 none
 else (if (2 * (i + 1) + 200) * 8 ≤ 281474976710656 ∧ some 1 = some 1 ∧ i + 1 ≤ 70368744177664 then
 (if 0 + i * 1 ≤ A.length then
 (if 0 = 0 ∧ 0 + i * 1 = A.length ∧ (0 < 1 ∨ 0 = 0) ∧ 1 = 1 ∧ [int i64 p].all AV.isCell = true then
 (if (2 * (i + 1) + 200) * 2 ≤ 281474976710656 ∧ some 1 = some 1 ∧ i + 1 ≤ 70368744177664 then
 (if 0 + i * 1 ≤ W.length then
 (if 0 = 0 ∧ 0 + i * 1 = W.length ∧ (0 < 1 ∨ 0 = 0) ∧ 1 = 1 ∧ [int u16 (abits u16 (· ||| ·) (u16.wrap (u16.wrap (intV (bys l)[0 + p.toNat * 1]?) * 256)) (u16.wrap (intV (bys l)[0 + (i64.wrap (p + 1)).toNat * 1]?)))].all AV.isCell = true then
 (if (AV.sl (some (7, 0)) i 0 false).beq (AV.sl (some (7, 0)) i 0 false) = true then
 (if (AV.sl (some (7, 0)) i 0 false).beq (AV.sl (some (7, 0)) i 0 false) = true then
 some ((AEx.norm, [AV.fn (Fn.yield 5) [], AV.ptr (some (4, 0)), int i64 (i64.wrap (p + 2))], (hW100 l m p i A W)))
 else none) else none) else none) else none) else none) else none) else none) else none))
 else none) else none) else none) else none) else none) else none) := by
  kernel_rfl

noncomputable def hW0b00 (l : List UInt8) (m p : Int) : AHeap := [cells (bys l) 1 Md.far none, cells [int i64 m] 1 Md.own none, cells [slN] 1 Md.own none, cells [slN] 1 Md.own none, cells [AV.sl (some (0, 0)) l.length 0 false] 1 Md.own none, .lp ({ st := LoopState.done, pend := some (AEx.exit 0), env := [AV.sl (some (0, 0)) l.length 0 false, int i64 m, AV.tup [], AV.ptr (some (1, 0)), AV.sl none 0 0 true, AV.sl none 0 0 true, AV.ptr (some (2, 0)), AV.ptr (some (3, 0)), AV.fn (Fn.func 33) [AV.ptr (some (4, 0))], AV.tup [], AV.tup [], AV.sl (some (0, 0)) l.length 0 false, AV.fn (Fn.func 33) [AV.ptr (some (4, 0))], AV.fn (Fn.func 33) [AV.ptr (some (4, 0))], AV.bool false, AV.fn (Fn.func 33) [AV.ptr (some (4, 0))], AV.tup [], AV.tup [], AV.tup [], AV.tup [], AV.tup [], AV.tup [], AV.tup [], AV.tup [], AV.tup [], AV.tup [], AV.tup [], AV.tup [], AV.tup [], AV.tup [], AV.tup [], AV.tup []], ps := [16, 17], asg := RNG.1, body := RNG.2 } : ALoop)]
theorem nfW0b0 (l : List UInt8) (m p : Int) :
 qround Try.prog [] 100 4 [(8, .bool true), (21, .bool true), (34, .bool true)] noT WL mWords (vW p) (h2N l m .ready none) =
 (if decide (p < (l.length : Int)) = true then
 (if 0 ≤ p ∧ p < (l.length : Int) then
 (if isIntV u8 (bys l)[0 + p.toNat * 1]? = true then
 (if decide (i64.wrap (p + 1) < (l.length : Int)) = true then
 (if 0 ≤ i64.wrap (p + 1) ∧ i64.wrap (p + 1) < (l.length : Int) then
 (if isIntV u8 (bys l)[0 + (i64.wrap (p + 1)).toNat * 1]? = true then
 (if (0 == intV (some (int i64 m))) = true then
 some ((AEx.ret, [AV.fn (Fn.yield 5) [], AV.ptr (some (4, 0)), int i64 p], (hW0b00 l m p)))
 else none) else none) else none) else none) else none) else none) else none) := by
  kernel_rfl

noncomputable def hW1b00 (l : List UInt8) (m p : Int) (i : Nat) (A W : List AV) : AHeap := [cells (bys l) 1 Md.far none, cells [int i64 m] 1 Md.own none, cells [AV.sl (some (6, 0)) i 0 false] 1 Md.own none, cells [AV.sl (some (7, 0)) i 0 false] 1 Md.own none, cells [AV.sl (some (0, 0)) l.length 0 false] 1 Md.own none, .lp ({ st := LoopState.done, pend := some (AEx.exit 0), env := [AV.sl (some (0, 0)) l.length 0 false, int i64 m, AV.tup [], AV.ptr (some (1, 0)), AV.sl none 0 0 true, AV.sl none 0 0 true, AV.ptr (some (2, 0)), AV.ptr (some (3, 0)), AV.fn (Fn.func 33) [AV.ptr (some (4, 0))], AV.tup [], AV.tup [], AV.sl (some (0, 0)) l.length 0 false, AV.fn (Fn.func 33) [AV.ptr (some (4, 0))], AV.fn (Fn.func 33) [AV.ptr (some (4, 0))], AV.bool false, AV.fn (Fn.func 33) [AV.ptr (some (4, 0))], AV.tup [], AV.tup [], AV.tup [], AV.tup [], AV.tup [], AV.tup [], AV.tup [], AV.tup [], AV.tup [], AV.tup [], AV.tup [], AV.tup [], AV.tup [], AV.tup [], AV.tup [], AV.tup []], ps := [16, 17], asg := RNG.1, body := RNG.2 } : ALoop), ABlk.cells A 1 Md.own none, ABlk.cells W 1 Md.own none]
theorem nfW1b0 (l : List UInt8) (m p : Int) (i : Nat) (A W : List AV) :
 qround Try.prog [] 100 4 [(8, .bool true), (21, .bool true), (34, .bool true)] noT WL mWords (vW p) (h2S l m i A W .ready none) =
 (if decide (p < (l.length : Int)) = true then
 (if 0 ≤ p ∧ p < (l.length : Int) then
 (if isIntV u8 (bys l)[0 + p.toNat * 1]? = true then
 (if decide (i64.wrap (p + 1) < (l.length : Int)) = true then
 (if 0 ≤ i64.wrap (p + 1) ∧ i64.wrap (p + 1) < (l.length : Int) then
 (if isIntV u8 (bys l)[0 + (i64.wrap (p + 1)).toNat * 1]? = true then
 (if ((i : Int) == intV (some (int i64 m))) = true then
 some ((AEx.ret, [AV.fn (Fn.yield 5) [], AV.ptr (some (4, 0)), int i64 p], (hW1b00 l m p i A W)))
 else (if (2 * (i + 1) + 200) * 8 ≤ 281474976710656 ∧ some 1 = some 1 ∧ i + 1 ≤ 70368744177664 then
 (if 0 + i * 1 ≤ A.length then
 (if 0 = 0 ∧ 0 + i * 1 = A.length ∧ (0 < 1 ∨ 0 = 0) ∧ 1 = 1 ∧ [int i64 p].all AV.isCell = true then
 (if (2 * (i + 1) + 200) * 2 ≤ 281474976710656 ∧ some 1 = some 1 ∧ i + 1 ≤ 70368744177664 then
 (if 0 + i * 1 ≤ W.length then
 (if 0 = 0 ∧ 0 + i * 1 = W.length ∧ (0 < 1 ∨ 0 = 0) ∧ 1 = 1 ∧ [int u16 (abits u16 (· ||| ·) (u16.wrap (u16.wrap (intV (bys l)[0 + p.toNat * 1]?) * 256)) (u16.wrap (intV (bys l)[0 + (i64.wrap (p + 1)).toNat * 1]?)))].all AV.isCell = true then
 (if (AV.sl (some (7, 0)) i 0 false).beq (AV.sl (some (7, 0)) i 0 false) = true then
 (if (AV.sl (some (7, 0)) i 0 false).beq (AV.sl (some (7, 0)) i 0 false) = true then
 none
 else none) else none) else none) else none) else none) else none) else none) else none))
 else none) else none) else none) else none) else none) else none) := by
  kernel_rfl

noncomputable def hW010 (l : List UInt8) (m p : Int) : AHeap := [cells (bys l) 1 Md.far none, cells [int i64 m] 1 Md.own none, cells [AV.sl (some (7, 0)) 1 0 false] 1 Md.own none, cells [AV.sl (some (9, 0)) 1 0 false] 1 Md.own none, cells [AV.sl (some (0, 0)) l.length 0 false] 1 Md.own none, .lp ({ st := LoopState.ready, pend := none, env := [AV.sl (some (0, 0)) l.length 0 false, int i64 m, AV.tup [], AV.ptr (some (1, 0)), AV.sl none 0 0 true, AV.sl none 0 0 true, AV.ptr (some (2, 0)), AV.ptr (some (3, 0)), AV.fn (Fn.func 33) [AV.ptr (some (4, 0))], AV.tup [], AV.tup [], AV.sl (some (0, 0)) l.length 0 false, AV.fn (Fn.func 33) [AV.ptr (some (4, 0))], AV.fn (Fn.func 33) [AV.ptr (some (4, 0))], AV.bool false, AV.fn (Fn.func 33) [AV.ptr (some (4, 0))], AV.tup [], AV.tup [], AV.tup [], AV.tup [], AV.tup [], AV.tup [], AV.tup [], AV.tup [], AV.tup [], AV.tup [], AV.tup [], AV.tup [], AV.tup [], AV.tup [], AV.tup [], AV.tup []], ps := [16, 17], asg := RNG.1, body := RNG.2 } : ALoop), cells [int i64 p] 1 Md.own none, cells [int i64 p] 1 Md.own none, cells [int u16 (u16.wrap (u16.wrap (intV (bys l)[0 + p.toNat * 1]?) * 256))] 1 Md.own none, cells [int u16 (u16.wrap (u16.wrap (intV (bys l)[0 + p.toNat * 1]?) * 256))] 1 Md.own none]
theorem nfW01 (l : List UInt8) (m p : Int) :
 qround Try.prog [] 100 4 [(8, .bool true), (21, .bool false), (34, .bool false)] noT WL mWords (vW p) (h2N l m .ready none) =
 (if decide (p < (l.length : Int)) = true then
 (if 0 ≤ p ∧ p < (l.length : Int) then
 (if isIntV u8 (bys l)[0 + p.toNat * 1]? = true then
 (if decide (i64.wrap (p + 1) < (l.length : Int)) = false then
 (if (0 == intV (some (int i64 m))) = true then
 none
 else some ((AEx.norm, [AV.fn (Fn.yield 5) [], AV.ptr (some (4, 0)), int i64 (i64.wrap (p + 2))], (hW010 l m p))))
 else none) else none) else none) else none) := by
  kernel_rfl

noncomputable def hW110 (l : List UInt8) (m p : Int) (i : Nat) (A W : List AV) : AHeap := [cells (bys l) 1 Md.far none, cells [int i64 m] 1 Md.own none, cells [AV.sl (some (9, 0)) (i + 1) 0 false] 1 Md.own none, cells [AV.sl (some (11, 0)) (i + 1) 0 false] 1 Md.own none, cells [AV.sl (some (0, 0)) l.length 0 false] 1 Md.own none, .lp ({ st := LoopState.ready, pend := none, env := [AV.sl (some (0, 0)) l.length 0 false, int i64 m, AV.tup [], AV.ptr (some (1, 0)), AV.sl none 0 0 true, AV.sl none 0 0 true, AV.ptr (some (2, 0)), AV.ptr (some (3, 0)), AV.fn (Fn.func 33) [AV.ptr (some (4, 0))], AV.tup [], AV.tup [], AV.sl (some (0, 0)) l.length 0 false, AV.fn (Fn.func 33) [AV.ptr (some (4, 0))], AV.fn (Fn.func 33) [AV.ptr (some (4, 0))], AV.bool false, AV.fn (Fn.func 33) [AV.ptr (some (4, 0))], AV.tup [], AV.tup [], AV.tup [], AV.tup [], AV.tup [], AV.tup [], AV.tup [], AV.tup [], AV.tup [], AV.tup [], AV.tup [], AV.tup [], AV.tup [], AV.tup [], AV.tup [], AV.tup []], ps := [16, 17], asg := RNG.1, body := RNG.2 } : ALoop), ABlk.cells A 1 Md.ro none, ABlk.cells W 1 Md.ro none, cells [int i64 p] 1 Md.own none, cells (List.take (i * 1) A ++ [int i64 p]) 1 Md.own (some 6), cells [int u16 (u16.wrap (u16.wrap (intV (bys l)[0 + p.toNat * 1]?) * 256))] 1 Md.own none, cells (List.take (i * 1) W ++ [int u16 (u16.wrap (u16.wrap (intV (bys l)[0 + p.toNat * 1]?) * 256))]) 1 Md.own (some 7)]
theorem nfW11 (l : List UInt8) (m p : Int) (i : Nat) (A W : List AV) :
 qround Try.prog [] 100 4 [(8, .bool true), (21, .bool false), (34, .bool false)] noT WL mWords (vW p) (h2S l m i A W .ready none) =
 (if decide (p < (l.length : Int)) = true then
 (if 0 ≤ p ∧ p < (l.length : Int) then
 (if isIntV u8 (bys l)[0 + p.toNat * 1]? = true then
 (if decide (i64.wrap (p + 1) < (l.length : Int)) = false then
 (if ((i : Int) == intV (some (int i64 m))) = true then
 none
 else (if (2 * (i + 1) + 200) * 8 ≤ 281474976710656 ∧ some 1 = some 1 ∧ i + 1 ≤ 70368744177664 then
 (if 0 + i * 1 ≤ A.length then
 (if 0 = 0 ∧ 0 + i * 1 = A.length ∧ (0 < 1 ∨ 0 = 0) ∧ 1 = 1 ∧ [int i64 p].all AV.isCell = true then
 (if (2 * (i + 1) + 200) * 2 ≤ 281474976710656 ∧ some 1 = some 1 ∧ i + 1 ≤ 70368744177664 then
 (if 0 + i * 1 ≤ W.length then
 (if 0 = 0 ∧ 0 + i * 1 = W.length ∧ (0 < 1 ∨ 0 = 0) ∧ 1 = 1 ∧ [int u16 (u16.wrap (u16.wrap (intV (bys l)[0 + p.toNat * 1]?) * 256))].all AV.isCell = true then
 (if (AV.sl (some (7, 0)) i 0 false).beq (AV.sl (some (7, 0)) i 0 false) = true then
 (if (AV.sl (some (7, 0)) i 0 false).beq (AV.sl (some (7, 0)) i 0 false) = true then
 some ((AEx.norm, [AV.fn (Fn.yield 5) [], AV.ptr (some (4, 0)), int i64 (i64.wrap (p + 2))], (hW110 l m p i A W)))
 else none) else none) else none) else none) else none) else none) else none) else none))
 else none) else none) else none) else none) := by
  kernel_rfl

noncomputable def hW0b10 (l : List UInt8) (m p : Int) : AHeap := [cells (bys l) 1 Md.far none, cells [int i64 m] 1 Md.own none, cells [slN] 1 Md.own none, cells [slN] 1 Md.own none, cells [AV.sl (some (0, 0)) l.length 0 false] 1 Md.own none, .lp ({ st := LoopState.done, pend := some (AEx.exit 0), env := [AV.sl (some (0, 0)) l.length 0 false, int i64 m, AV.tup [], AV.ptr (some (1, 0)), AV.sl none 0 0 true, AV.sl none 0 0 true, AV.ptr (some (2, 0)), AV.ptr (some (3, 0)), AV.fn (Fn.func 33) [AV.ptr (some (4, 0))], AV.tup [], AV.tup [], AV.sl (some (0, 0)) l.length 0 false, AV.fn (Fn.func 33) [AV.ptr (some (4, 0))], AV.fn (Fn.func 33) [AV.ptr (some (4, 0))], AV.bool false, AV.fn (Fn.func 33) [AV.ptr (some (4, 0))], AV.tup [], AV.tup [], AV.tup [], AV.tup [], AV.tup [], AV.tup [], AV.tup [], AV.tup [], AV.tup [], AV.tup [], AV.tup [], AV.tup [], AV.tup [], AV.tup [], AV.tup [], AV.tup []], ps := [16, 17], asg := RNG.1, body := RNG.2 } : ALoop)]
theorem nfW0b1 (l : List UInt8) (m p : Int) :
 qround Try.prog [] 100 4 [(8, .bool true), (21, .bool false), (34, .bool true)] noT WL mWords (vW p) (h2N l m .ready none) =
 (if decide (p < (l.length : Int)) = true then
 (if 0 ≤ p ∧ p < (l.length : Int) then
 (if isIntV u8 (bys l)[0 + p.toNat * 1]? = true then
 (if decide (i64.wrap (p + 1) < (l.length : Int)) = false then
 (if (0 == intV (some (int i64 m))) = true then
 some ((AEx.ret, [AV.fn (Fn.yield 5) [], AV.ptr (some (4, 0)), int i64 p], (hW0b10 l m p)))
 else none) else none) else none) else none) else none) := by
  kernel_rfl

noncomputable def hW1b10 (l : List UInt8) (m p : Int) (i : Nat) (A W : List AV) : AHeap := [cells (bys l) 1 Md.far none, cells [int i64 m] 1 Md.own none, cells [AV.sl (some (6, 0)) i 0 false] 1 Md.own none, cells [AV.sl (some (7, 0)) i 0 false] 1 Md.own none, cells [AV.sl (some (0, 0)) l.length 0 false] 1 Md.own none, .lp ({ st := LoopState.done, pend := some (AEx.exit 0), env := [AV.sl (some (0, 0)) l.length 0 false, int i64 m, AV.tup [], AV.ptr (some (1, 0)), AV.sl none 0 0 true, AV.sl none 0 0 true, AV.ptr (some (2, 0)), AV.ptr (some (3, 0)), AV.fn (Fn.func 33) [AV.ptr (some (4, 0))], AV.tup [], AV.tup [], AV.sl (some (0, 0)) l.length 0 false, AV.fn (Fn.func 33) [AV.ptr (some (4, 0))], AV.fn (Fn.func 33) [AV.ptr (some (4, 0))], AV.bool false, AV.fn (Fn.func 33) [AV.ptr (some (4, 0))], AV.tup [], AV.tup [], AV.tup [], AV.tup [], AV.tup [], AV.tup [], AV.tup [], AV.tup [], AV.tup [], AV.tup [], AV.tup [], AV.tup [], AV.tup [], AV.tup [], AV.tup [], AV.tup []], ps := [16, 17], asg := RNG.1, body := RNG.2 } : ALoop), ABlk.cells A 1 Md.own none, ABlk.cells W 1 Md.own none]
theorem nfW1b1 (l : List UInt8) (m p : Int) (i : Nat) (A W : List AV) :
 qround Try.prog [] 100 4 [(8, .bool true), (21, .bool false), (34, .bool true)] noT WL mWords (vW p) (h2S l m i A W .ready none) =
 (if decide (p < (l.length : Int)) = true then
 (if 0 ≤ p ∧ p < (l.length : Int) then
 (if isIntV u8 (bys l)[0 + p.toNat * 1]? = true then
 (if decide (i64.wrap (p + 1) < (l.length : Int)) = false then
 (if ((i : Int) == intV (some (int i64 m))) = true then
 some ((AEx.ret, [AV.fn (Fn.yield 5) [], AV.ptr (some (4, 0)), int i64 p], (hW1b10 l m p i A W)))
 else (if (2 * (i + 1) + 200) * 8 ≤ 281474976710656 ∧ some 1 = some 1 ∧ i + 1 ≤ 70368744177664 then
 (if 0 + i * 1 ≤ A.length then
 (if 0 = 0 ∧ 0 + i * 1 = A.length ∧ (0 < 1 ∨ 0 = 0) ∧ 1 = 1 ∧ [int i64 p].all AV.isCell = true then
 (if (2 * (i + 1) + 200) * 2 ≤ 281474976710656 ∧ some 1 = some 1 ∧ i + 1 ≤ 70368744177664 then
 (if 0 + i * 1 ≤ W.length then
 (if 0 = 0 ∧ 0 + i * 1 = W.length ∧ (0 < 1 ∨ 0 = 0) ∧ 1 = 1 ∧ [int u16 (u16.wrap (u16.wrap (intV (bys l)[0 + p.toNat * 1]?) * 256))].all AV.isCell = true then
 (if (AV.sl (some (7, 0)) i 0 false).beq (AV.sl (some (7, 0)) i 0 false) = true then
 (if (AV.sl (some (7, 0)) i 0 false).beq (AV.sl (some (7, 0)) i 0 false) = true then
 none
 else none) else none) else none) else none) else none) else none) else none) else none))
 else none) else none) else none) else none) := by
  kernel_rfl

noncomputable def hW0s0 (l : List UInt8) (m p : Int) : AHeap := [cells (bys l) 1 Md.far none, cells [int i64 m] 1 Md.own none, cells [slN] 1 Md.own none, cells [slN] 1 Md.own none, cells [AV.sl (some (0, 0)) l.length 0 false] 1 Md.own none, .lp ({ st := LoopState.ready, pend := none, env := [AV.sl (some (0, 0)) l.length 0 false, int i64 m, AV.tup [], AV.ptr (some (1, 0)), AV.sl none 0 0 true, AV.sl none 0 0 true, AV.ptr (some (2, 0)), AV.ptr (some (3, 0)), AV.fn (Fn.func 33) [AV.ptr (some (4, 0))], AV.tup [], AV.tup [], AV.sl (some (0, 0)) l.length 0 false, AV.fn (Fn.func 33) [AV.ptr (some (4, 0))], AV.fn (Fn.func 33) [AV.ptr (some (4, 0))], AV.bool false, AV.fn (Fn.func 33) [AV.ptr (some (4, 0))], AV.tup [], AV.tup [], AV.tup [], AV.tup [], AV.tup [], AV.tup [], AV.tup [], AV.tup [], AV.tup [], AV.tup [], AV.tup [], AV.tup [], AV.tup [], AV.tup [], AV.tup [], AV.tup []], ps := [16, 17], asg := RNG.1, body := RNG.2 } : ALoop)]
theorem nfW0s (l : List UInt8) (m p : Int) :
 qround Try.prog [] 100 4 [(8, .bool false)] noT WL mWords (vW p) (h2N l m .ready none) =
 (if decide (p < (l.length : Int)) = false then
 some ((AEx.exit 0, [AV.fn (Fn.yield 5) [], AV.ptr (some (4, 0)), int i64 p], (hW0s0 l m p)))
 else none) := by
  kernel_rfl

noncomputable def hW1s0 (l : List UInt8) (m p : Int) (i : Nat) (A W : List AV) : AHeap := [cells (bys l) 1 Md.far none, cells [int i64 m] 1 Md.own none, cells [AV.sl (some (6, 0)) i 0 false] 1 Md.own none, cells [AV.sl (some (7, 0)) i 0 false] 1 Md.own none, cells [AV.sl (some (0, 0)) l.length 0 false] 1 Md.own none, .lp ({ st := LoopState.ready, pend := none, env := [AV.sl (some (0, 0)) l.length 0 false, int i64 m, AV.tup [], AV.ptr (some (1, 0)), AV.sl none 0 0 true, AV.sl none 0 0 true, AV.ptr (some (2, 0)), AV.ptr (some (3, 0)), AV.fn (Fn.func 33) [AV.ptr (some (4, 0))], AV.tup [], AV.tup [], AV.sl (some (0, 0)) l.length 0 false, AV.fn (Fn.func 33) [AV.ptr (some (4, 0))], AV.fn (Fn.func 33) [AV.ptr (some (4, 0))], AV.bool false, AV.fn (Fn.func 33) [AV.ptr (some (4, 0))], AV.tup [], AV.tup [], AV.tup [], AV.tup [], AV.tup [], AV.tup [], AV.tup [], AV.tup [], AV.tup [], AV.tup [], AV.tup [], AV.tup [], AV.tup [], AV.tup [], AV.tup [], AV.tup []], ps := [16, 17], asg := RNG.1, body := RNG.2 } : ALoop), ABlk.cells A 1 Md.own none, ABlk.cells W 1 Md.own none]
theorem nfW1s (l : List UInt8) (m p : Int) (i : Nat) (A W : List AV) :
 qround Try.prog [] 100 4 [(8, .bool false)] noT WL mWords (vW p) (h2S l m i A W .ready none) =
 (if decide (p < (l.length : Int)) = false then
 some ((AEx.exit 0, [AV.fn (Fn.yield 5) [], AV.ptr (some (4, 0)), int i64 p], (hW1s0 l m p i A W)))
 else none) := by
  kernel_rfl


noncomputable def tTwo (e : Ent) : Tbl := [(33, e)]

theorem nfWNe {R : Type} (l : List UInt8) (h0 h1 : AHeap) (p : Int) (K : AV → AHeap → Option R) :
 qrun Try.prog [] 100 4 [] [(1, fixL mWords (vW 0) h0 (.exit 0) (vW p) h1)] 33 [.fn (.yield 5) [], .ptr (some (4, 0))] h0 K =
 (if cdec ([AV.fn (Fn.yield 5) [], AV.ptr (some (4, 0)), int i64 0] = [AV.fn (Fn.yield 5) [], AV.ptr (some (4, 0)), int i64 0] ∧ h0 = h0) = true then
 K (AV.tup []) (h1)
 else none) := by
  kernel_rfl

noncomputable def hTwo0e0 (l : List UInt8) (m : Int) : AHeap := [cells (bys l) 1 Md.far none, cells [int i64 m] 1 Md.own none, cells [AV.sl none 0 0 true] 1 Md.own none, cells [AV.sl none 0 0 true] 1 Md.own none, cells [AV.sl (some (0, 0)) l.length 0 false] 1 Md.own none, .lp ({ st := LoopState.ready, pend := none, env := [AV.sl (some (0, 0)) l.length 0 false, int i64 m, AV.tup [], AV.ptr (some (1, 0)), AV.sl none 0 0 true, AV.sl none 0 0 true, AV.ptr (some (2, 0)), AV.ptr (some (3, 0)), AV.fn (Fn.func 33) [AV.ptr (some (4, 0))], AV.tup [], AV.tup [], AV.sl (some (0, 0)) l.length 0 false, AV.fn (Fn.func 33) [AV.ptr (some (4, 0))], AV.fn (Fn.func 33) [AV.ptr (some (4, 0))], AV.bool false, AV.fn (Fn.func 33) [AV.ptr (some (4, 0))], AV.tup [], AV.tup [], AV.tup [], AV.tup [], AV.tup [], AV.tup [], AV.tup [], AV.tup [], AV.tup [], AV.tup [], AV.tup [], AV.tup [], AV.tup [], AV.tup [], AV.tup [], AV.tup []], ps := [16, 17], asg := RNG.1, body := RNG.2 } : ALoop)]
noncomputable def hTwo0e1 (l : List UInt8) (m : Int) : AHeap := [cells (bys l) 1 Md.far none, cells [int i64 m] 1 Md.own none, cells [slN] 1 Md.own none, cells [slN] 1 Md.own none, cells [AV.sl (some (0, 0)) l.length 0 false] 1 Md.own none, .lp ({ st := LoopState.ready, pend := none, env := [AV.sl (some (0, 0)) l.length 0 false, int i64 m, AV.tup [], AV.ptr (some (1, 0)), AV.sl none 0 0 true, AV.sl none 0 0 true, AV.ptr (some (2, 0)), AV.ptr (some (3, 0)), AV.fn (Fn.func 33) [AV.ptr (some (4, 0))], AV.tup [], AV.tup [], AV.sl (some (0, 0)) l.length 0 false, AV.fn (Fn.func 33) [AV.ptr (some (4, 0))], AV.fn (Fn.func 33) [AV.ptr (some (4, 0))], AV.bool false, AV.fn (Fn.func 33) [AV.ptr (some (4, 0))], AV.tup [], AV.tup [], AV.tup [], AV.tup [], AV.tup [], AV.tup [], AV.tup [], AV.tup [], AV.tup [], AV.tup [], AV.tup [], AV.tup [], AV.tup [], AV.tup [], AV.tup [], AV.tup []], ps := [16, 17], asg := RNG.1, body := RNG.2 } : ALoop)]
noncomputable def hTwo0e2 (l : List UInt8) (m : Int) : AHeap := [cells (bys l) 1 Md.far none, cells [int i64 m] 1 Md.own none, cells [slN] 1 Md.own none, cells [slN] 1 Md.own none, cells [AV.sl (some (0, 0)) l.length 0 false] 1 Md.own none, .lp ({ st := LoopState.exhausted, pend := none, env := [AV.sl (some (0, 0)) l.length 0 false, int i64 m, AV.tup [], AV.ptr (some (1, 0)), AV.sl none 0 0 true, AV.sl none 0 0 true, AV.ptr (some (2, 0)), AV.ptr (some (3, 0)), AV.fn (Fn.func 33) [AV.ptr (some (4, 0))], AV.tup [], AV.tup [], AV.sl (some (0, 0)) l.length 0 false, AV.fn (Fn.func 33) [AV.ptr (some (4, 0))], AV.fn (Fn.func 33) [AV.ptr (some (4, 0))], AV.bool false, AV.fn (Fn.func 33) [AV.ptr (some (4, 0))], AV.tup [], AV.tup [], AV.tup [], AV.tup [], AV.tup [], AV.tup [], AV.tup [], AV.tup [], AV.tup [], AV.tup [], AV.tup [], AV.tup [], AV.tup [], AV.tup [], AV.tup [], AV.tup []], ps := [16, 17], asg := RNG.1, body := RNG.2 } : ALoop)]
theorem nfTwo0e {R : Type} (l : List UInt8) (m : Int) (K : AV → AHeap → Option R) :
 qrun Try.prog (tTwo (fixE [.fn (.yield 5) [], .ptr (some (4, 0))] (h2N l m .ready none) (.tup []) (h2N l m .ready none))) 100 4 [] [] 22 [slB 0 l, .int .i64 m] [farB l] K =
 (if cdec ([AV.fn (Fn.yield 5) [], AV.ptr (some (4, 0))] = [AV.fn (Fn.yield 5) [], AV.ptr (some (4, 0))] ∧ (hTwo0e0 l m) = (hTwo0e1 l m)) = true then
 K (AV.tup [AV.sl none 0 0 true, AV.sl none 0 0 true]) ((hTwo0e2 l m))
 else none) := by
  kernel_rfl

noncomputable def hTwo1e0 (l : List UInt8) (m : Int) (i : Nat) (A W : List AV) : AHeap := [cells (bys l) 1 Md.far none, cells [int i64 m] 1 Md.own none, cells [AV.sl none 0 0 true] 1 Md.own none, cells [AV.sl none 0 0 true] 1 Md.own none, cells [AV.sl (some (0, 0)) l.length 0 false] 1 Md.own none, .lp ({ st := LoopState.ready, pend := none, env := [AV.sl (some (0, 0)) l.length 0 false, int i64 m, AV.tup [], AV.ptr (some (1, 0)), AV.sl none 0 0 true, AV.sl none 0 0 true, AV.ptr (some (2, 0)), AV.ptr (some (3, 0)), AV.fn (Fn.func 33) [AV.ptr (some (4, 0))], AV.tup [], AV.tup [], AV.sl (some (0, 0)) l.length 0 false, AV.fn (Fn.func 33) [AV.ptr (some (4, 0))], AV.fn (Fn.func 33) [AV.ptr (some (4, 0))], AV.bool false, AV.fn (Fn.func 33) [AV.ptr (some (4, 0))], AV.tup [], AV.tup [], AV.tup [], AV.tup [], AV.tup [], AV.tup [], AV.tup [], AV.tup [], AV.tup [], AV.tup [], AV.tup [], AV.tup [], AV.tup [], AV.tup [], AV.tup [], AV.tup []], ps := [16, 17], asg := RNG.1, body := RNG.2 } : ALoop)]
noncomputable def hTwo1e1 (l : List UInt8) (m : Int) (i : Nat) (A W : List AV) : AHeap := [cells (bys l) 1 Md.far none, cells [int i64 m] 1 Md.own none, cells [slN] 1 Md.own none, cells [slN] 1 Md.own none, cells [AV.sl (some (0, 0)) l.length 0 false] 1 Md.own none, .lp ({ st := LoopState.ready, pend := none, env := [AV.sl (some (0, 0)) l.length 0 false, int i64 m, AV.tup [], AV.ptr (some (1, 0)), AV.sl none 0 0 true, AV.sl none 0 0 true, AV.ptr (some (2, 0)), AV.ptr (some (3, 0)), AV.fn (Fn.func 33) [AV.ptr (some (4, 0))], AV.tup [], AV.tup [], AV.sl (some (0, 0)) l.length 0 false, AV.fn (Fn.func 33) [AV.ptr (some (4, 0))], AV.fn (Fn.func 33) [AV.ptr (some (4, 0))], AV.bool false, AV.fn (Fn.func 33) [AV.ptr (some (4, 0))], AV.tup [], AV.tup [], AV.tup [], AV.tup [], AV.tup [], AV.tup [], AV.tup [], AV.tup [], AV.tup [], AV.tup [], AV.tup [], AV.tup [], AV.tup [], AV.tup [], AV.tup [], AV.tup []], ps := [16, 17], asg := RNG.1, body := RNG.2 } : ALoop)]
noncomputable def hTwo1e2 (l : List UInt8) (m : Int) (i : Nat) (A W : List AV) : AHeap := [cells (bys l) 1 Md.far none, cells [int i64 m] 1 Md.own none, cells [AV.sl (some (6, 0)) i 0 false] 1 Md.own none, cells [AV.sl (some (7, 0)) i 0 false] 1 Md.own none, cells [AV.sl (some (0, 0)) l.length 0 false] 1 Md.own none, .lp ({ st := LoopState.exhausted, pend := none, env := [AV.sl (some (0, 0)) l.length 0 false, int i64 m, AV.tup [], AV.ptr (some (1, 0)), AV.sl none 0 0 true, AV.sl none 0 0 true, AV.ptr (some (2, 0)), AV.ptr (some (3, 0)), AV.fn (Fn.func 33) [AV.ptr (some (4, 0))], AV.tup [], AV.tup [], AV.sl (some (0, 0)) l.length 0 false, AV.fn (Fn.func 33) [AV.ptr (some (4, 0))], AV.fn (Fn.func 33) [AV.ptr (some (4, 0))], AV.bool false, AV.fn (Fn.func 33) [AV.ptr (some (4, 0))], AV.tup [], AV.tup [], AV.tup [], AV.tup [], AV.tup [], AV.tup [], AV.tup [], AV.tup [], AV.tup [], AV.tup [], AV.tup [], AV.tup [], AV.tup [], AV.tup [], AV.tup [], AV.tup []], ps := [16, 17], asg := RNG.1, body := RNG.2 } : ALoop), ABlk.cells A 1 Md.own none, ABlk.cells W 1 Md.own none]
theorem nfTwo1e {R : Type} (l : List UInt8) (m : Int) (i : Nat) (A W : List AV) (K : AV → AHeap → Option R) :
 qrun Try.prog (tTwo (fixE [.fn (.yield 5) [], .ptr (some (4, 0))] (h2N l m .ready none) (.tup []) (h2S l m i A W .ready none))) 100 4 [] [] 22 [slB 0 l, .int .i64 m] [farB l] K =
 (if cdec ([AV.fn (Fn.yield 5) [], AV.ptr (some (4, 0))] = [AV.fn (Fn.yield 5) [], AV.ptr (some (4, 0))] ∧ (hTwo1e0 l m i A W) = (hTwo1e1 l m i A W)) = true then
 K (AV.tup [AV.sl (some (6, 0)) i 0 false, AV.sl (some (7, 0)) i 0 false]) ((hTwo1e2 l m i A W))
 else none) := by
  kernel_rfl

theorem nfWNb {R : Type} (l : List UInt8) (h0 h1 : AHeap) (p : Int) (K : AV → AHeap → Option R) :
 qrun Try.prog [] 100 4 [] [(1, fixL mWords (vW 0) h0 .ret (vW p) h1)] 33 [.fn (.yield 5) [], .ptr (some (4, 0))] h0 K =
 (if cdec ([AV.fn (Fn.yield 5) [], AV.ptr (some (4, 0)), int i64 0] = [AV.fn (Fn.yield 5) [], AV.ptr (some (4, 0)), int i64 0] ∧ h0 = h0) = true then
 K (AV.tup []) (h1)
 else none) := by
  kernel_rfl

noncomputable def hTwo0b0 (l : List UInt8) (m : Int) : AHeap := [cells (bys l) 1 Md.far none, cells [int i64 m] 1 Md.own none, cells [AV.sl none 0 0 true] 1 Md.own none, cells [AV.sl none 0 0 true] 1 Md.own none, cells [AV.sl (some (0, 0)) l.length 0 false] 1 Md.own none, .lp ({ st := LoopState.ready, pend := none, env := [AV.sl (some (0, 0)) l.length 0 false, int i64 m, AV.tup [], AV.ptr (some (1, 0)), AV.sl none 0 0 true, AV.sl none 0 0 true, AV.ptr (some (2, 0)), AV.ptr (some (3, 0)), AV.fn (Fn.func 33) [AV.ptr (some (4, 0))], AV.tup [], AV.tup [], AV.sl (some (0, 0)) l.length 0 false, AV.fn (Fn.func 33) [AV.ptr (some (4, 0))], AV.fn (Fn.func 33) [AV.ptr (some (4, 0))], AV.bool false, AV.fn (Fn.func 33) [AV.ptr (some (4, 0))], AV.tup [], AV.tup [], AV.tup [], AV.tup [], AV.tup [], AV.tup [], AV.tup [], AV.tup [], AV.tup [], AV.tup [], AV.tup [], AV.tup [], AV.tup [], AV.tup [], AV.tup [], AV.tup []], ps := [16, 17], asg := RNG.1, body := RNG.2 } : ALoop)]
noncomputable def hTwo0b1 (l : List UInt8) (m : Int) : AHeap := [cells (bys l) 1 Md.far none, cells [int i64 m] 1 Md.own none, cells [slN] 1 Md.own none, cells [slN] 1 Md.own none, cells [AV.sl (some (0, 0)) l.length 0 false] 1 Md.own none, .lp ({ st := LoopState.ready, pend := none, env := [AV.sl (some (0, 0)) l.length 0 false, int i64 m, AV.tup [], AV.ptr (some (1, 0)), AV.sl none 0 0 true, AV.sl none 0 0 true, AV.ptr (some (2, 0)), AV.ptr (some (3, 0)), AV.fn (Fn.func 33) [AV.ptr (some (4, 0))], AV.tup [], AV.tup [], AV.sl (some (0, 0)) l.length 0 false, AV.fn (Fn.func 33) [AV.ptr (some (4, 0))], AV.fn (Fn.func 33) [AV.ptr (some (4, 0))], AV.bool false, AV.fn (Fn.func 33) [AV.ptr (some (4, 0))], AV.tup [], AV.tup [], AV.tup [], AV.tup [], AV.tup [], AV.tup [], AV.tup [], AV.tup [], AV.tup [], AV.tup [], AV.tup [], AV.tup [], AV.tup [], AV.tup [], AV.tup [], AV.tup []], ps := [16, 17], asg := RNG.1, body := RNG.2 } : ALoop)]
noncomputable def hTwo0b2 (l : List UInt8) (m : Int) : AHeap := [cells (bys l) 1 Md.far none, cells [int i64 m] 1 Md.own none, cells [slN] 1 Md.own none, cells [slN] 1 Md.own none, cells [AV.sl (some (0, 0)) l.length 0 false] 1 Md.own none, .lp ({ st := LoopState.exhausted, pend := some (AEx.exit 0), env := [AV.sl (some (0, 0)) l.length 0 false, int i64 m, AV.tup [], AV.ptr (some (1, 0)), AV.sl none 0 0 true, AV.sl none 0 0 true, AV.ptr (some (2, 0)), AV.ptr (some (3, 0)), AV.fn (Fn.func 33) [AV.ptr (some (4, 0))], AV.tup [], AV.tup [], AV.sl (some (0, 0)) l.length 0 false, AV.fn (Fn.func 33) [AV.ptr (some (4, 0))], AV.fn (Fn.func 33) [AV.ptr (some (4, 0))], AV.bool false, AV.fn (Fn.func 33) [AV.ptr (some (4, 0))], AV.tup [], AV.tup [], AV.tup [], AV.tup [], AV.tup [], AV.tup [], AV.tup [], AV.tup [], AV.tup [], AV.tup [], AV.tup [], AV.tup [], AV.tup [], AV.tup [], AV.tup [], AV.tup []], ps := [16, 17], asg := RNG.1, body := RNG.2 } : ALoop)]
theorem nfTwo0b {R : Type} (l : List UInt8) (m : Int) (K : AV → AHeap → Option R) :
 qrun Try.prog (tTwo (fixE [.fn (.yield 5) [], .ptr (some (4, 0))] (h2N l m .ready none) (.tup []) (h2N l m .done (some (.exit 0))))) 100 4 [] [] 22 [slB 0 l, .int .i64 m] [farB l] K =
 (if cdec ([AV.fn (Fn.yield 5) [], AV.ptr (some (4, 0))] = [AV.fn (Fn.yield 5) [], AV.ptr (some (4, 0))] ∧ (hTwo0b0 l m) = (hTwo0b1 l m)) = true then
 K (AV.tup [AV.sl none 0 0 true, AV.sl none 0 0 true]) ((hTwo0b2 l m))
 else none) := by
  kernel_rfl

noncomputable def hTwo1b0 (l : List UInt8) (m : Int) (i : Nat) (A W : List AV) : AHeap := [cells (bys l) 1 Md.far none, cells [int i64 m] 1 Md.own none, cells [AV.sl none 0 0 true] 1 Md.own none, cells [AV.sl none 0 0 true] 1 Md.own none, cells [AV.sl (some (0, 0)) l.length 0 false] 1 Md.own none, .lp ({ st := LoopState.ready, pend := none, env := [AV.sl (some (0, 0)) l.length 0 false, int i64 m, AV.tup [], AV.ptr (some (1, 0)), AV.sl none 0 0 true, AV.sl none 0 0 true, AV.ptr (some (2, 0)), AV.ptr (some (3, 0)), AV.fn (Fn.func 33) [AV.ptr (some (4, 0))], AV.tup [], AV.tup [], AV.sl (some (0, 0)) l.length 0 false, AV.fn (Fn.func 33) [AV.ptr (some (4, 0))], AV.fn (Fn.func 33) [AV.ptr (some (4, 0))], AV.bool false, AV.fn (Fn.func 33) [AV.ptr (some (4, 0))], AV.tup [], AV.tup [], AV.tup [], AV.tup [], AV.tup [], AV.tup [], AV.tup [], AV.tup [], AV.tup [], AV.tup [], AV.tup [], AV.tup [], AV.tup [], AV.tup [], AV.tup [], AV.tup []], ps := [16, 17], asg := RNG.1, body := RNG.2 } : ALoop)]
noncomputable def hTwo1b1 (l : List UInt8) (m : Int) (i : Nat) (A W : List AV) : AHeap := [cells (bys l) 1 Md.far none, cells [int i64 m] 1 Md.own none, cells [slN] 1 Md.own none, cells [slN] 1 Md.own none, cells [AV.sl (some (0, 0)) l.length 0 false] 1 Md.own none, .lp ({ st := LoopState.ready, pend := none, env := [AV.sl (some (0, 0)) l.length 0 false, int i64 m, AV.tup [], AV.ptr (some (1, 0)), AV.sl none 0 0 true, AV.sl none 0 0 true, AV.ptr (some (2, 0)), AV.ptr (some (3, 0)), AV.fn (Fn.func 33) [AV.ptr (some (4, 0))], AV.tup [], AV.tup [], AV.sl (some (0, 0)) l.length 0 false, AV.fn (Fn.func 33) [AV.ptr (some (4, 0))], AV.fn (Fn.func 33) [AV.ptr (some (4, 0))], AV.bool false, AV.fn (Fn.func 33) [AV.ptr (some (4, 0))], AV.tup [], AV.tup [], AV.tup [], AV.tup [], AV.tup [], AV.tup [], AV.tup [], AV.tup [], AV.tup [], AV.tup [], AV.tup [], AV.tup [], AV.tup [], AV.tup [], AV.tup [], AV.tup []], ps := [16, 17], asg := RNG.1, body := RNG.2 } : ALoop)]
noncomputable def hTwo1b2 (l : List UInt8) (m : Int) (i : Nat) (A W : List AV) : AHeap := [cells (bys l) 1 Md.far none, cells [int i64 m] 1 Md.own none, cells [AV.sl (some (6, 0)) i 0 false] 1 Md.own none, cells [AV.sl (some (7, 0)) i 0 false] 1 Md.own none, cells [AV.sl (some (0, 0)) l.length 0 false] 1 Md.own none, .lp ({ st := LoopState.exhausted, pend := some (AEx.exit 0), env := [AV.sl (some (0, 0)) l.length 0 false, int i64 m, AV.tup [], AV.ptr (some (1, 0)), AV.sl none 0 0 true, AV.sl none 0 0 true, AV.ptr (some (2, 0)), AV.ptr (some (3, 0)), AV.fn (Fn.func 33) [AV.ptr (some (4, 0))], AV.tup [], AV.tup [], AV.sl (some (0, 0)) l.length 0 false, AV.fn (Fn.func 33) [AV.ptr (some (4, 0))], AV.fn (Fn.func 33) [AV.ptr (some (4, 0))], AV.bool false, AV.fn (Fn.func 33) [AV.ptr (some (4, 0))], AV.tup [], AV.tup [], AV.tup [], AV.tup [], AV.tup [], AV.tup [], AV.tup [], AV.tup [], AV.tup [], AV.tup [], AV.tup [], AV.tup [], AV.tup [], AV.tup [], AV.tup [], AV.tup []], ps := [16, 17], asg := RNG.1, body := RNG.2 } : ALoop), ABlk.cells A 1 Md.own none, ABlk.cells W 1 Md.own none]
theorem nfTwo1b {R : Type} (l : List UInt8) (m : Int) (i : Nat) (A W : List AV) (K : AV → AHeap → Option R) :
 qrun Try.prog (tTwo (fixE [.fn (.yield 5) [], .ptr (some (4, 0))] (h2N l m .ready none) (.tup []) (h2S l m i A W .done (some (.exit 0))))) 100 4 [] [] 22 [slB 0 l, .int .i64 m] [farB l] K =
 (if cdec ([AV.fn (Fn.yield 5) [], AV.ptr (some (4, 0))] = [AV.fn (Fn.yield 5) [], AV.ptr (some (4, 0))] ∧ (hTwo1b0 l m i A W) = (hTwo1b1 l m i A W)) = true then
 K (AV.tup [AV.sl (some (6, 0)) i 0 false, AV.sl (some (7, 0)) i 0 false]) ((hTwo1b2 l m i A W))
 else none) := by
  kernel_rfl


end Go.Proofs.Ytejbipoibpefnaa.L
