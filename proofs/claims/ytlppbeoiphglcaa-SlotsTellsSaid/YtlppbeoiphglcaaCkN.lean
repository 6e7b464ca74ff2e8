/- slots.Check: its rows. -/
import Derived.Test.YtlppbeoiphglcaaPVal
import Derived.Test.YtlppbeoiphglcaaMapL
import Derived.Test.YtlppbeoiphglcaaReKit
set_option autoImplicit false
set_option maxRecDepth 100000
set_option linter.unusedVariables false
set_option linter.unusedSimpArgs false
namespace Go.Proofs.Ytlppbeoiphglcaa.L
open Go Go.Abs
open Go.IntKind
open Go.Abs.AV (int)
open Go.Abs.ABlk (cells)

noncomputable abbrev CKL := loopIn (bodyOf Try.prog 12) 0
def mCk : List Bool := List.replicate 2 false ++ List.replicate 2 true ++ List.replicate 6 false ++ List.replicate 3 true ++ List.replicate 28 false
noncomputable def tCk : Tbl := [(26, entF eValD)]
theorem tCkOk : ∀ f E, tCk.find f = some E → SoundE Try.prog f E := find_cons sPVal (find_nil _)
def vCk (e : Int) (n : Nat) (i : Int) : List AV := [.int .i64 e, .map (some 1), .sl (some (0, 0)) n 0 false, .int .i64 n, .int .i64 i]
def hCk (C : List AV) (es : List (AV × AV × Nat)) (c : Nat) : AHeap := [.cells C 19 .far none, .mp es c true]

noncomputable def hCka0 (C : List AV) (es : List (AV × AV × Nat)) (c n : Nat) (i : Int) : AHeap := [ABlk.cells C 19 Md.far none, ABlk.mp es c true, cells (putCells [AV.bool false, int u8 0, int u8 0, int u8 0, int u8 0, int u8 0, int u8 0, int u8 0, int u8 0, int u8 0, int u8 0, int u8 0, int u8 0, int u8 0, int u8 0, int u8 0, int u8 0, int u16 0, int i64 0] 0 (List.take 19 (List.drop (0 + i.toNat * 19) C))) 19 Md.own none]
noncomputable def hCka1 (C : List AV) (es : List (AV × AV × Nat)) (c n : Nat) (i : Int) : AHeap := [ABlk.cells C 19 Md.far none, ABlk.mp (opq (esOf 1 (amapUpdate0 Try.prog (hCka0 C es c n i) 57 (AV.map (some 1)) (AV.agg (List.take 18 (putCells [AV.bool false, int u8 0, int u8 0, int u8 0, int u8 0, int u8 0, int u8 0, int u8 0, int u8 0, int u8 0, int u8 0, int u8 0, int u8 0, int u8 0, int u8 0, int u8 0, int u8 0, int u16 0, int i64 0] 0 (List.take 19 (List.drop (0 + i.toNat * 19) C))))) (AV.bool true)))) (opq (ckOf 1 (amapUpdate0 Try.prog (hCka0 C es c n i) 57 (AV.map (some 1)) (AV.agg (List.take 18 (putCells [AV.bool false, int u8 0, int u8 0, int u8 0, int u8 0, int u8 0, int u8 0, int u8 0, int u8 0, int u8 0, int u8 0, int u8 0, int u8 0, int u8 0, int u8 0, int u8 0, int u8 0, int u16 0, int i64 0] 0 (List.take 19 (List.drop (0 + i.toNat * 19) C))))) (AV.bool true)))) false, cells (putCells [AV.bool false, int u8 0, int u8 0, int u8 0, int u8 0, int u8 0, int u8 0, int u8 0, int u8 0, int u8 0, int u8 0, int u8 0, int u8 0, int u8 0, int u8 0, int u8 0, int u8 0, int u16 0, int i64 0] 0 (List.take 19 (List.drop (0 + i.toNat * 19) C))) 19 Md.own none]
noncomputable def hCka2 (C : List AV) (es : List (AV × AV × Nat)) (c n : Nat) (i : Int) : AHeap := [ABlk.cells C 19 Md.far none, ABlk.mp (opq (esOf 1 (amapUpdate0 Try.prog (hCka0 C es c n i) 57 (AV.map (some 1)) (AV.agg (List.take 18 (putCells [AV.bool false, int u8 0, int u8 0, int u8 0, int u8 0, int u8 0, int u8 0, int u8 0, int u8 0, int u8 0, int u8 0, int u8 0, int u8 0, int u8 0, int u8 0, int u8 0, int u8 0, int u16 0, int i64 0] 0 (List.take 19 (List.drop (0 + i.toNat * 19) C))))) (AV.bool true)))) (opq (ckOf 1 (amapUpdate0 Try.prog (hCka0 C es c n i) 57 (AV.map (some 1)) (AV.agg (List.take 18 (putCells [AV.bool false, int u8 0, int u8 0, int u8 0, int u8 0, int u8 0, int u8 0, int u8 0, int u8 0, int u8 0, int u8 0, int u8 0, int u8 0, int u8 0, int u8 0, int u8 0, int u8 0, int u16 0, int i64 0] 0 (List.take 19 (List.drop (0 + i.toNat * 19) C))))) (AV.bool true)))) true, cells (putCells [AV.bool false, int u8 0, int u8 0, int u8 0, int u8 0, int u8 0, int u8 0, int u8 0, int u8 0, int u8 0, int u8 0, int u8 0, int u8 0, int u8 0, int u8 0, int u8 0, int u8 0, int u16 0, int i64 0] 0 (List.take 19 (List.drop (0 + i.toNat * 19) C))) 19 Md.own none]
theorem nfCka (C : List AV) (es : List (AV × AV × Nat)) (c n : Nat) (i : Int) :
 qround Try.prog tCk 100 4 [(13, .bool true), (36, .bool false)] noT CKL mCk (vCk 0 n i) (hCk C es c) =
 (if decide (i < (n : Int)) = true then
 (if 0 ≤ i ∧ i < (n : Int) then
 (if 0 + i.toNat * 19 + 19 ≤ C.length then
 (if (List.take 19 (List.drop (0 + i.toNat * 19) C)).length = 19 then
 (if 0 + (List.take 19 (List.drop (0 + i.toNat * 19) C)).length ≤ 19 ∧ (List.take 19 (List.drop (0 + i.toNat * 19) C)).all AV.isCell = true then
 (if 17 ≤ (putCells [AV.bool false, int u8 0, int u8 0, int u8 0, int u8 0, int u8 0, int u8 0, int u8 0, int u8 0, int u8 0, int u8 0, int u8 0, int u8 0, int u8 0, int u8 0, int u8 0, int u8 0, int u16 0, int i64 0] 0 (List.take 19 (List.drop (0 + i.toNat * 19) C))).length then
 (if cdec (IsAdr (List.take 17 (putCells [AV.bool false, int u8 0, int u8 0, int u8 0, int u8 0, int u8 0, int u8 0, int u8 0, int u8 0, int u8 0, int u8 0, int u8 0, int u8 0, int u8 0, int u8 0, int u8 0, int u8 0, int u16 0, int i64 0] 0 (List.take 19 (List.drop (0 + i.toNat * 19) C))))) = true then
 (if (!opq (adrValid (List.take 17 (putCells [AV.bool false, int u8 0, int u8 0, int u8 0, int u8 0, int u8 0, int u8 0, int u8 0, int u8 0, int u8 0, int u8 0, int u8 0, int u8 0, int u8 0, int u8 0, int u8 0, int u8 0, int u16 0, int i64 0] 0 (List.take 19 (List.drop (0 + i.toNat * 19) C)))))) = true then
 none
 else (if 18 ≤ (putCells [AV.bool false, int u8 0, int u8 0, int u8 0, int u8 0, int u8 0, int u8 0, int u8 0, int u8 0, int u8 0, int u8 0, int u8 0, int u8 0, int u8 0, int u8 0, int u8 0, int u8 0, int u16 0, int i64 0] 0 (List.take 19 (List.drop (0 + i.toNat * 19) C))).length then
 (if cdec (alookup0 Try.prog (hCka0 C es c n i) 57 (AV.map (some 1)) (AV.agg (List.take 18 (putCells [AV.bool false, int u8 0, int u8 0, int u8 0, int u8 0, int u8 0, int u8 0, int u8 0, int u8 0, int u8 0, int u8 0, int u8 0, int u8 0, int u8 0, int u8 0, int u8 0, int u8 0, int u16 0, int i64 0] 0 (List.take 19 (List.drop (0 + i.toNat * 19) C))))) false = some (AV.bool (opq (boolV (alookup0 Try.prog (hCka0 C es c n i) 57 (AV.map (some 1)) (AV.agg (List.take 18 (putCells [AV.bool false, int u8 0, int u8 0, int u8 0, int u8 0, int u8 0, int u8 0, int u8 0, int u8 0, int u8 0, int u8 0, int u8 0, int u8 0, int u8 0, int u8 0, int u8 0, int u8 0, int u16 0, int i64 0] 0 (List.take 19 (List.drop (0 + i.toNat * 19) C))))) false))))) = true then
 (if opq (boolV (alookup0 Try.prog (hCka0 C es c n i) 57 (AV.map (some 1)) (AV.agg (List.take 18 (putCells [AV.bool false, int u8 0, int u8 0, int u8 0, int u8 0, int u8 0, int u8 0, int u8 0, int u8 0, int u8 0, int u8 0, int u8 0, int u8 0, int u8 0, int u8 0, int u8 0, int u8 0, int u16 0, int i64 0] 0 (List.take 19 (List.drop (0 + i.toNat * 19) C))))) false)) = true then
 none
 else (if isIntV i64 (putCells [AV.bool false, int u8 0, int u8 0, int u8 0, int u8 0, int u8 0, int u8 0, int u8 0, int u8 0, int u8 0, int u8 0, int u8 0, int u8 0, int u8 0, int u8 0, int u8 0, int u8 0, int u16 0, int i64 0] 0 (List.take 19 (List.drop (0 + i.toNat * 19) C)))[18]? = true then
 (if decide (intV (putCells [AV.bool false, int u8 0, int u8 0, int u8 0, int u8 0, int u8 0, int u8 0, int u8 0, int u8 0, int u8 0, int u8 0, int u8 0, int u8 0, int u8 0, int u8 0, int u8 0, int u8 0, int u16 0, int i64 0] 0 (List.take 19 (List.drop (0 + i.toNat * 19) C)))[18]? < 1) = true then
 none
 else (if isIntV i64 (putCells [AV.bool false, int u8 0, int u8 0, int u8 0, int u8 0, int u8 0, int u8 0, int u8 0, int u8 0, int u8 0, int u8 0, int u8 0, int u8 0, int u8 0, int u8 0, int u8 0, int u8 0, int u16 0, int i64 0] 0 (List.take 19 (List.drop (0 + i.toNat * 19) C)))[18]? = true then
 (if decide (intV (putCells [AV.bool false, int u8 0, int u8 0, int u8 0, int u8 0, int u8 0, int u8 0, int u8 0, int u8 0, int u8 0, int u8 0, int u8 0, int u8 0, int u8 0, int u8 0, int u8 0, int u8 0, int u16 0, int i64 0] 0 (List.take 19 (List.drop (0 + i.toNat * 19) C)))[18]? > 16) = false then
 (if 18 ≤ (putCells [AV.bool false, int u8 0, int u8 0, int u8 0, int u8 0, int u8 0, int u8 0, int u8 0, int u8 0, int u8 0, int u8 0, int u8 0, int u8 0, int u8 0, int u8 0, int u8 0, int u8 0, int u16 0, int i64 0] 0 (List.take 19 (List.drop (0 + i.toNat * 19) C))).length then
 (if cdec (amapUpdate0 Try.prog (hCka0 C es c n i) 57 (AV.map (some 1)) (AV.agg (List.take 18 (putCells [AV.bool false, int u8 0, int u8 0, int u8 0, int u8 0, int u8 0, int u8 0, int u8 0, int u8 0, int u8 0, int u8 0, int u8 0, int u8 0, int u8 0, int u8 0, int u8 0, int u8 0, int u16 0, int i64 0] 0 (List.take 19 (List.drop (0 + i.toNat * 19) C))))) (AV.bool true) = some (hCka1 C es c n i)) = true then
 some ((AEx.norm, [int i64 0, AV.map (some 1), AV.sl (some (0, 0)) n 0 false, int i64 (n : Int), int i64 (i64.wrap (i + 1))], (hCka2 C es c n i)))
 else none) else none) else none) else none))
 else none))
 else none) else none))
 else none) else none) else none) else none) else none) else none) else none) := by
  kernel_rfl

noncomputable def hCkb0 (C : List AV) (es : List (AV × AV × Nat)) (c n : Nat) (i : Int) : AHeap := [ABlk.cells C 19 Md.far none, ABlk.mp es c true, cells (putCells [AV.bool false, int u8 0, int u8 0, int u8 0, int u8 0, int u8 0, int u8 0, int u8 0, int u8 0, int u8 0, int u8 0, int u8 0, int u8 0, int u8 0, int u8 0, int u8 0, int u8 0, int u16 0, int i64 0] 0 (List.take 19 (List.drop (0 + i.toNat * 19) C))) 19 Md.own none]
theorem nfCkb (C : List AV) (es : List (AV × AV × Nat)) (c n : Nat) (i : Int) :
 qround Try.prog tCk 100 4 [(13, .bool true), (36, .bool true)] noT CKL mCk (vCk 0 n i) (hCk C es c) =
 (if decide (i < (n : Int)) = true then
 (if 0 ≤ i ∧ i < (n : Int) then
 (if 0 + i.toNat * 19 + 19 ≤ C.length then
 (if (List.take 19 (List.drop (0 + i.toNat * 19) C)).length = 19 then
 (if 0 + (List.take 19 (List.drop (0 + i.toNat * 19) C)).length ≤ 19 ∧ (List.take 19 (List.drop (0 + i.toNat * 19) C)).all AV.isCell = true then
 (if 17 ≤ (putCells [AV.bool false, int u8 0, int u8 0, int u8 0, int u8 0, int u8 0, int u8 0, int u8 0, int u8 0, int u8 0, int u8 0, int u8 0, int u8 0, int u8 0, int u8 0, int u8 0, int u8 0, int u16 0, int i64 0] 0 (List.take 19 (List.drop (0 + i.toNat * 19) C))).length then
 (if cdec (IsAdr (List.take 17 (putCells [AV.bool false, int u8 0, int u8 0, int u8 0, int u8 0, int u8 0, int u8 0, int u8 0, int u8 0, int u8 0, int u8 0, int u8 0, int u8 0, int u8 0, int u8 0, int u8 0, int u8 0, int u16 0, int i64 0] 0 (List.take 19 (List.drop (0 + i.toNat * 19) C))))) = true then
 (if (!opq (adrValid (List.take 17 (putCells [AV.bool false, int u8 0, int u8 0, int u8 0, int u8 0, int u8 0, int u8 0, int u8 0, int u8 0, int u8 0, int u8 0, int u8 0, int u8 0, int u8 0, int u8 0, int u8 0, int u8 0, int u16 0, int i64 0] 0 (List.take 19 (List.drop (0 + i.toNat * 19) C)))))) = true then
 some ((AEx.ret, [int i64 1, AV.map (some 1), AV.sl (some (0, 0)) n 0 false, int i64 (n : Int), int i64 i], (hCkb0 C es c n i)))
 else (if 18 ≤ (putCells [AV.bool false, int u8 0, int u8 0, int u8 0, int u8 0, int u8 0, int u8 0, int u8 0, int u8 0, int u8 0, int u8 0, int u8 0, int u8 0, int u8 0, int u8 0, int u8 0, int u8 0, int u16 0, int i64 0] 0 (List.take 19 (List.drop (0 + i.toNat * 19) C))).length then
 (if cdec (alookup0 Try.prog (hCkb0 C es c n i) 57 (AV.map (some 1)) (AV.agg (List.take 18 (putCells [AV.bool false, int u8 0, int u8 0, int u8 0, int u8 0, int u8 0, int u8 0, int u8 0, int u8 0, int u8 0, int u8 0, int u8 0, int u8 0, int u8 0, int u8 0, int u8 0, int u8 0, int u16 0, int i64 0] 0 (List.take 19 (List.drop (0 + i.toNat * 19) C))))) false = some (AV.bool (opq (boolV (alookup0 Try.prog (hCkb0 C es c n i) 57 (AV.map (some 1)) (AV.agg (List.take 18 (putCells [AV.bool false, int u8 0, int u8 0, int u8 0, int u8 0, int u8 0, int u8 0, int u8 0, int u8 0, int u8 0, int u8 0, int u8 0, int u8 0, int u8 0, int u8 0, int u8 0, int u8 0, int u16 0, int i64 0] 0 (List.take 19 (List.drop (0 + i.toNat * 19) C))))) false))))) = true then
 (if opq (boolV (alookup0 Try.prog (hCkb0 C es c n i) 57 (AV.map (some 1)) (AV.agg (List.take 18 (putCells [AV.bool false, int u8 0, int u8 0, int u8 0, int u8 0, int u8 0, int u8 0, int u8 0, int u8 0, int u8 0, int u8 0, int u8 0, int u8 0, int u8 0, int u8 0, int u8 0, int u8 0, int u16 0, int i64 0] 0 (List.take 19 (List.drop (0 + i.toNat * 19) C))))) false)) = true then
 some ((AEx.ret, [int i64 1, AV.map (some 1), AV.sl (some (0, 0)) n 0 false, int i64 (n : Int), int i64 i], (hCkb0 C es c n i)))
 else (if isIntV i64 (putCells [AV.bool false, int u8 0, int u8 0, int u8 0, int u8 0, int u8 0, int u8 0, int u8 0, int u8 0, int u8 0, int u8 0, int u8 0, int u8 0, int u8 0, int u8 0, int u8 0, int u8 0, int u16 0, int i64 0] 0 (List.take 19 (List.drop (0 + i.toNat * 19) C)))[18]? = true then
 (if decide (intV (putCells [AV.bool false, int u8 0, int u8 0, int u8 0, int u8 0, int u8 0, int u8 0, int u8 0, int u8 0, int u8 0, int u8 0, int u8 0, int u8 0, int u8 0, int u8 0, int u8 0, int u8 0, int u16 0, int i64 0] 0 (List.take 19 (List.drop (0 + i.toNat * 19) C)))[18]? < 1) = true then
 some ((AEx.ret, [int i64 1, AV.map (some 1), AV.sl (some (0, 0)) n 0 false, int i64 (n : Int), int i64 i], (hCkb0 C es c n i)))
 else (if isIntV i64 (putCells [AV.bool false, int u8 0, int u8 0, int u8 0, int u8 0, int u8 0, int u8 0, int u8 0, int u8 0, int u8 0, int u8 0, int u8 0, int u8 0, int u8 0, int u8 0, int u8 0, int u8 0, int u16 0, int i64 0] 0 (List.take 19 (List.drop (0 + i.toNat * 19) C)))[18]? = true then
 (if decide (intV (putCells [AV.bool false, int u8 0, int u8 0, int u8 0, int u8 0, int u8 0, int u8 0, int u8 0, int u8 0, int u8 0, int u8 0, int u8 0, int u8 0, int u8 0, int u8 0, int u8 0, int u8 0, int u16 0, int i64 0] 0 (List.take 19 (List.drop (0 + i.toNat * 19) C)))[18]? > 16) = true then
 some ((AEx.ret, [int i64 1, AV.map (some 1), AV.sl (some (0, 0)) n 0 false, int i64 (n : Int), int i64 i], (hCkb0 C es c n i)))
 else none) else none))
 else none))
 else none) else none))
 else none) else none) else none) else none) else none) else none) else none) := by
  kernel_rfl

noncomputable def hCks0 (C : List AV) (es : List (AV × AV × Nat)) (c n : Nat) (i : Int) : AHeap := [ABlk.cells C 19 Md.far none, ABlk.mp es c true]
theorem nfCks (C : List AV) (es : List (AV × AV × Nat)) (c n : Nat) (i : Int) :
 qround Try.prog tCk 100 4 [(13, .bool false)] noT CKL mCk (vCk 0 n i) (hCk C es c) =
 (if decide (i < (n : Int)) = false then
 some ((AEx.exit 0, [int i64 0, AV.map (some 1), AV.sl (some (0, 0)) n 0 false, int i64 (n : Int), int i64 i], (hCks0 C es c n i)))
 else none) := by
  kernel_rfl

noncomputable def hCkl0 (C : List AV) (n : Nat) : AHeap := [ABlk.cells C 19 Md.far none]
theorem nfCkl {R : Type} (C : List AV) (n : Nat) (K : AV → AHeap → Option R) :
 qrun Try.prog tCk 100 4 [(8, .bool true)] [] 12 [.sl (some (0, 0)) n 0 false] [.cells C 19 .far none] K =
 (if decide ((n : Int) > 32) = true then
 K (int i64 1) ((hCkl0 C n))
 else none) := by
  kernel_rfl

noncomputable def hCke0 (q : Prop) (C : List AV) (es : List (AV × AV × Nat)) (c n : Nat) (i : Int) (x : Int) : AHeap := [ABlk.cells C 19 Md.far none, ABlk.mp [] 0 false]
noncomputable def hCke1 (q : Prop) (C : List AV) (es : List (AV × AV × Nat)) (c n : Nat) (i : Int) (x : Int) : AHeap := [ABlk.cells C 19 Md.far none, ABlk.mp es c true]
theorem nfCke {R : Type} (q : Prop) (C : List AV) (es : List (AV × AV × Nat)) (c n : Nat) (i : Int) (x : Int) (K : AV → AHeap → Option R) :
 qrun Try.prog tCk 100 4 [(8, .bool false)] [(5, fixC q mCk (vCk 0 n 0) [.cells C 19 .far none, .mp [] 0 false] (.exit 0) (vCk x n i) (hCk C es c))] 12 [.sl (some (0, 0)) n 0 false] [.cells C 19 .far none] K =
 (if decide ((n : Int) > 32) = false then
 (if cdec (q ∧ [int i64 0, AV.map (some 1), AV.sl (some (0, 0)) n 0 false, int i64 (n : Int), int i64 0] = [int i64 0, AV.map (some 1), AV.sl (some (0, 0)) n 0 false, int i64 (n : Int), int i64 0] ∧ (hCke0 q C es c n i x) = (hCke0 q C es c n i x)) = true then
 K (int i64 0) ((hCke1 q C es c n i x))
 else none) else none) := by
  kernel_rfl

noncomputable def hCkr0 (q : Prop) (C : List AV) (es : List (AV × AV × Nat)) (c n : Nat) (i : Int) (x : Int) : AHeap := [ABlk.cells C 19 Md.far none, ABlk.mp [] 0 false]
noncomputable def hCkr1 (q : Prop) (C : List AV) (es : List (AV × AV × Nat)) (c n : Nat) (i : Int) (x : Int) : AHeap := [ABlk.cells C 19 Md.far none, ABlk.mp es c true]
theorem nfCkr {R : Type} (q : Prop) (C : List AV) (es : List (AV × AV × Nat)) (c n : Nat) (i : Int) (x : Int) (K : AV → AHeap → Option R) :
 qrun Try.prog tCk 100 4 [(8, .bool false)] [(5, fixC q mCk (vCk 0 n 0) [.cells C 19 .far none, .mp [] 0 false] .ret (vCk x n i) (hCk C es c))] 12 [.sl (some (0, 0)) n 0 false] [.cells C 19 .far none] K =
 (if decide ((n : Int) > 32) = false then
 (if cdec (q ∧ [int i64 0, AV.map (some 1), AV.sl (some (0, 0)) n 0 false, int i64 (n : Int), int i64 0] = [int i64 0, AV.map (some 1), AV.sl (some (0, 0)) n 0 false, int i64 (n : Int), int i64 0] ∧ (hCkr0 q C es c n i x) = (hCkr0 q C es c n i x)) = true then
 K (int i64 x) ((hCkr1 q C es c n i x))
 else none) else none) := by
  kernel_rfl


end Go.Proofs.Ytlppbeoiphglcaa.L
