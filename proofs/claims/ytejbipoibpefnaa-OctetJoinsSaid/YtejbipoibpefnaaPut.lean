/- octet's Put and Append. -/
import Derived.Test.YtejbipoibpefnaaOctB
import Derived.Test.YtejbipoibpefnaaAddrB
set_option autoImplicit false
set_option maxRecDepth 100000
set_option linter.unusedVariables false
set_option linter.unusedSimpArgs false
namespace Go.Proofs.Ytejbipoibpefnaa.L
open Go Go.Abs

noncomputable def hPut80 (l : List UInt8) (p v : Int) : AHeap := [ABlk.cells (bys l) 1 Md.own none]
noncomputable def hPut81 (l : List UInt8) (p v : Int) : AHeap := [ABlk.cells (putCells (bys l) (0 + (IntKind.i64.wrap (p + 0)).toNat * 1) [AV.int IntKind.u8 (IntKind.u8.wrap (IntKind.u64.wrap v))]) 1 Md.own none]
theorem nfPut8 {R : Type} (l : List UInt8) (p v : Int) (K : AV → AHeap → Option R) :
 qrun Try.prog [] 100 4 [] [] 14 [slB 0 l, .int .i64 p, .int .u8 v] [ownB l] K =
 (if decide (p ≥ 0) = true then
 (if decide (p ≤ (l.length : Int)) = true then
 (if (!decide (IntKind.i64.wrap ((l.length : Int) - p) ≥ 1)) = true then
 K (AV.bool false) ((hPut80 l p v))
 else (if 0 ≤ IntKind.i64.wrap (p + 0) ∧ IntKind.i64.wrap (p + 0) < (l.length : Int) then
 (if 0 + (IntKind.i64.wrap (p + 0)).toNat * 1 + [AV.int IntKind.u8 (IntKind.u8.wrap (IntKind.u64.wrap v))].length ≤ (bys l).length ∧ [AV.int IntKind.u8 (IntKind.u8.wrap (IntKind.u64.wrap v))].all AV.isCell = true then
 K (AV.bool true) ((hPut81 l p v))
 else none) else none))
 else K (AV.bool false) ((hPut80 l p v)))
 else K (AV.bool false) ((hPut80 l p v))) := by
  kernel_rfl

noncomputable def hPut160 (l : List UInt8) (p v : Int) : AHeap := [ABlk.cells (bys l) 1 Md.own none]
noncomputable def hPut161 (l : List UInt8) (p v : Int) : AHeap := [ABlk.cells (putCells (putCells (bys l) (0 + (IntKind.i64.wrap (p + 1)).toNat * 1) [AV.int IntKind.u8 (IntKind.u8.wrap (IntKind.u64.wrap v))]) (0 + (IntKind.i64.wrap (p + 0)).toNat * 1) [AV.int IntKind.u8 (IntKind.u8.wrap ((IntKind.u64.wrap v).fdiv 256))]) 1 Md.own none]
theorem nfPut16 {R : Type} (l : List UInt8) (p v : Int) (K : AV → AHeap → Option R) :
 qrun Try.prog [] 100 4 [] [] 16 [slB 0 l, .int .i64 p, .int .u16 v] [ownB l] K =
 (if decide (p ≥ 0) = true then
 (if decide (p ≤ (l.length : Int)) = true then
 (if (!decide (IntKind.i64.wrap ((l.length : Int) - p) ≥ 2)) = true then
 K (AV.bool false) ((hPut160 l p v))
 else (if 0 ≤ IntKind.i64.wrap (p + 1) ∧ IntKind.i64.wrap (p + 1) < (l.length : Int) then
 (if 0 + (IntKind.i64.wrap (p + 1)).toNat * 1 + [AV.int IntKind.u8 (IntKind.u8.wrap (IntKind.u64.wrap v))].length ≤ (bys l).length ∧ [AV.int IntKind.u8 (IntKind.u8.wrap (IntKind.u64.wrap v))].all AV.isCell = true then
 (if 0 ≤ IntKind.i64.wrap (p + 0) ∧ IntKind.i64.wrap (p + 0) < (l.length : Int) then
 (if 0 + (IntKind.i64.wrap (p + 0)).toNat * 1 + [AV.int IntKind.u8 (IntKind.u8.wrap ((IntKind.u64.wrap v).fdiv 256))].length ≤ (putCells (bys l) (0 + (IntKind.i64.wrap (p + 1)).toNat * 1) [AV.int IntKind.u8 (IntKind.u8.wrap (IntKind.u64.wrap v))]).length ∧ [AV.int IntKind.u8 (IntKind.u8.wrap ((IntKind.u64.wrap v).fdiv 256))].all AV.isCell = true then
 K (AV.bool true) ((hPut161 l p v))
 else none) else none) else none) else none))
 else K (AV.bool false) ((hPut160 l p v)))
 else K (AV.bool false) ((hPut160 l p v))) := by
  kernel_rfl

noncomputable def hPut320 (l : List UInt8) (p v : Int) : AHeap := [ABlk.cells (bys l) 1 Md.own none]
noncomputable def hPut321 (l : List UInt8) (p v : Int) : AHeap := [ABlk.cells (putCells (putCells (putCells (putCells (bys l) (0 + (IntKind.i64.wrap (p + 3)).toNat * 1) [AV.int IntKind.u8 (IntKind.u8.wrap (IntKind.u64.wrap v))]) (0 + (IntKind.i64.wrap (p + 2)).toNat * 1) [AV.int IntKind.u8 (IntKind.u8.wrap ((IntKind.u64.wrap v).fdiv 256))]) (0 + (IntKind.i64.wrap (p + 1)).toNat * 1) [AV.int IntKind.u8 (IntKind.u8.wrap (((IntKind.u64.wrap v).fdiv 256).fdiv 256))]) (0 + (IntKind.i64.wrap (p + 0)).toNat * 1) [AV.int IntKind.u8 (IntKind.u8.wrap ((((IntKind.u64.wrap v).fdiv 256).fdiv 256).fdiv 256))]) 1 Md.own none]
theorem nfPut32 {R : Type} (l : List UInt8) (p v : Int) (K : AV → AHeap → Option R) :
 qrun Try.prog [] 100 4 [] [] 18 [slB 0 l, .int .i64 p, .int .u32 v] [ownB l] K =
 (if decide (p ≥ 0) = true then
 (if decide (p ≤ (l.length : Int)) = true then
 (if (!decide (IntKind.i64.wrap ((l.length : Int) - p) ≥ 4)) = true then
 K (AV.bool false) ((hPut320 l p v))
 else (if 0 ≤ IntKind.i64.wrap (p + 3) ∧ IntKind.i64.wrap (p + 3) < (l.length : Int) then
 (if 0 + (IntKind.i64.wrap (p + 3)).toNat * 1 + [AV.int IntKind.u8 (IntKind.u8.wrap (IntKind.u64.wrap v))].length ≤ (bys l).length ∧ [AV.int IntKind.u8 (IntKind.u8.wrap (IntKind.u64.wrap v))].all AV.isCell = true then
 (if 0 ≤ IntKind.i64.wrap (p + 2) ∧ IntKind.i64.wrap (p + 2) < (l.length : Int) then
 (if 0 + (IntKind.i64.wrap (p + 2)).toNat * 1 + [AV.int IntKind.u8 (IntKind.u8.wrap ((IntKind.u64.wrap v).fdiv 256))].length ≤ (putCells (bys l) (0 + (IntKind.i64.wrap (p + 3)).toNat * 1) [AV.int IntKind.u8 (IntKind.u8.wrap (IntKind.u64.wrap v))]).length ∧ [AV.int IntKind.u8 (IntKind.u8.wrap ((IntKind.u64.wrap v).fdiv 256))].all AV.isCell = true then
 (if 0 ≤ IntKind.i64.wrap (p + 1) ∧ IntKind.i64.wrap (p + 1) < (l.length : Int) then
 (if 0 + (IntKind.i64.wrap (p + 1)).toNat * 1 + [AV.int IntKind.u8 (IntKind.u8.wrap (((IntKind.u64.wrap v).fdiv 256).fdiv 256))].length ≤ (putCells (putCells (bys l) (0 + (IntKind.i64.wrap (p + 3)).toNat * 1) [AV.int IntKind.u8 (IntKind.u8.wrap (IntKind.u64.wrap v))]) (0 + (IntKind.i64.wrap (p + 2)).toNat * 1) [AV.int IntKind.u8 (IntKind.u8.wrap ((IntKind.u64.wrap v).fdiv 256))]).length ∧ [AV.int IntKind.u8 (IntKind.u8.wrap (((IntKind.u64.wrap v).fdiv 256).fdiv 256))].all AV.isCell = true then
 (if 0 ≤ IntKind.i64.wrap (p + 0) ∧ IntKind.i64.wrap (p + 0) < (l.length : Int) then
 (if 0 + (IntKind.i64.wrap (p + 0)).toNat * 1 + [AV.int IntKind.u8 (IntKind.u8.wrap ((((IntKind.u64.wrap v).fdiv 256).fdiv 256).fdiv 256))].length ≤ (putCells (putCells (putCells (bys l) (0 + (IntKind.i64.wrap (p + 3)).toNat * 1) [AV.int IntKind.u8 (IntKind.u8.wrap (IntKind.u64.wrap v))]) (0 + (IntKind.i64.wrap (p + 2)).toNat * 1) [AV.int IntKind.u8 (IntKind.u8.wrap ((IntKind.u64.wrap v).fdiv 256))]) (0 + (IntKind.i64.wrap (p + 1)).toNat * 1) [AV.int IntKind.u8 (IntKind.u8.wrap (((IntKind.u64.wrap v).fdiv 256).fdiv 256))]).length ∧ [AV.int IntKind.u8 (IntKind.u8.wrap ((((IntKind.u64.wrap v).fdiv 256).fdiv 256).fdiv 256))].all AV.isCell = true then
 K (AV.bool true) ((hPut321 l p v))
 else none) else none) else none) else none) else none) else none) else none) else none))
 else K (AV.bool false) ((hPut320 l p v)))
 else K (AV.bool false) ((hPut320 l p v))) := by
  kernel_rfl

noncomputable def hPut640 (l : List UInt8) (p v : Int) : AHeap := [ABlk.cells (bys l) 1 Md.own none]
noncomputable def hPut641 (l : List UInt8) (p v : Int) : AHeap := [ABlk.cells (putCells (putCells (putCells (putCells (putCells (putCells (putCells (putCells (bys l) (0 + (IntKind.i64.wrap (p + 7)).toNat * 1) [AV.int IntKind.u8 (IntKind.u8.wrap v)]) (0 + (IntKind.i64.wrap (p + 6)).toNat * 1) [AV.int IntKind.u8 (IntKind.u8.wrap (v.fdiv 256))]) (0 + (IntKind.i64.wrap (p + 5)).toNat * 1) [AV.int IntKind.u8 (IntKind.u8.wrap ((v.fdiv 256).fdiv 256))]) (0 + (IntKind.i64.wrap (p + 4)).toNat * 1) [AV.int IntKind.u8 (IntKind.u8.wrap (((v.fdiv 256).fdiv 256).fdiv 256))]) (0 + (IntKind.i64.wrap (p + 3)).toNat * 1) [AV.int IntKind.u8 (IntKind.u8.wrap ((((v.fdiv 256).fdiv 256).fdiv 256).fdiv 256))]) (0 + (IntKind.i64.wrap (p + 2)).toNat * 1) [AV.int IntKind.u8 (IntKind.u8.wrap (((((v.fdiv 256).fdiv 256).fdiv 256).fdiv 256).fdiv 256))]) (0 + (IntKind.i64.wrap (p + 1)).toNat * 1) [AV.int IntKind.u8 (IntKind.u8.wrap ((((((v.fdiv 256).fdiv 256).fdiv 256).fdiv 256).fdiv 256).fdiv 256))]) (0 + (IntKind.i64.wrap (p + 0)).toNat * 1) [AV.int IntKind.u8 (IntKind.u8.wrap (((((((v.fdiv 256).fdiv 256).fdiv 256).fdiv 256).fdiv 256).fdiv 256).fdiv 256))]) 1 Md.own none]
theorem nfPut64 {R : Type} (l : List UInt8) (p v : Int) (K : AV → AHeap → Option R) :
 qrun Try.prog [] 100 4 [] [] 20 [slB 0 l, .int .i64 p, .int .u64 v] [ownB l] K =
 (if decide (p ≥ 0) = true then
 (if decide (p ≤ (l.length : Int)) = true then
 (if (!decide (IntKind.i64.wrap ((l.length : Int) - p) ≥ 8)) = true then
 K (AV.bool false) ((hPut640 l p v))
 else (if 0 ≤ IntKind.i64.wrap (p + 7) ∧ IntKind.i64.wrap (p + 7) < (l.length : Int) then
 (if 0 + (IntKind.i64.wrap (p + 7)).toNat * 1 + [AV.int IntKind.u8 (IntKind.u8.wrap v)].length ≤ (bys l).length ∧ [AV.int IntKind.u8 (IntKind.u8.wrap v)].all AV.isCell = true then
 (if 0 ≤ IntKind.i64.wrap (p + 6) ∧ IntKind.i64.wrap (p + 6) < (l.length : Int) then
 (if 0 + (IntKind.i64.wrap (p + 6)).toNat * 1 + [AV.int IntKind.u8 (IntKind.u8.wrap (v.fdiv 256))].length ≤ (putCells (bys l) (0 + (IntKind.i64.wrap (p + 7)).toNat * 1) [AV.int IntKind.u8 (IntKind.u8.wrap v)]).length ∧ [AV.int IntKind.u8 (IntKind.u8.wrap (v.fdiv 256))].all AV.isCell = true then
 (if 0 ≤ IntKind.i64.wrap (p + 5) ∧ IntKind.i64.wrap (p + 5) < (l.length : Int) then
 (if 0 + (IntKind.i64.wrap (p + 5)).toNat * 1 + [AV.int IntKind.u8 (IntKind.u8.wrap ((v.fdiv 256).fdiv 256))].length ≤ (putCells (putCells (bys l) (0 + (IntKind.i64.wrap (p + 7)).toNat * 1) [AV.int IntKind.u8 (IntKind.u8.wrap v)]) (0 + (IntKind.i64.wrap (p + 6)).toNat * 1) [AV.int IntKind.u8 (IntKind.u8.wrap (v.fdiv 256))]).length ∧ [AV.int IntKind.u8 (IntKind.u8.wrap ((v.fdiv 256).fdiv 256))].all AV.isCell = true then
 (if 0 ≤ IntKind.i64.wrap (p + 4) ∧ IntKind.i64.wrap (p + 4) < (l.length : Int) then
 (if 0 + (IntKind.i64.wrap (p + 4)).toNat * 1 + [AV.int IntKind.u8 (IntKind.u8.wrap (((v.fdiv 256).fdiv 256).fdiv 256))].length ≤ (putCells (putCells (putCells (bys l) (0 + (IntKind.i64.wrap (p + 7)).toNat * 1) [AV.int IntKind.u8 (IntKind.u8.wrap v)]) (0 + (IntKind.i64.wrap (p + 6)).toNat * 1) [AV.int IntKind.u8 (IntKind.u8.wrap (v.fdiv 256))]) (0 + (IntKind.i64.wrap (p + 5)).toNat * 1) [AV.int IntKind.u8 (IntKind.u8.wrap ((v.fdiv 256).fdiv 256))]).length ∧ [AV.int IntKind.u8 (IntKind.u8.wrap (((v.fdiv 256).fdiv 256).fdiv 256))].all AV.isCell = true then
 (if 0 ≤ IntKind.i64.wrap (p + 3) ∧ IntKind.i64.wrap (p + 3) < (l.length : Int) then
 (if 0 + (IntKind.i64.wrap (p + 3)).toNat * 1 + [AV.int IntKind.u8 (IntKind.u8.wrap ((((v.fdiv 256).fdiv 256).fdiv 256).fdiv 256))].length ≤ (putCells (putCells (putCells (putCells (bys l) (0 + (IntKind.i64.wrap (p + 7)).toNat * 1) [AV.int IntKind.u8 (IntKind.u8.wrap v)]) (0 + (IntKind.i64.wrap (p + 6)).toNat * 1) [AV.int IntKind.u8 (IntKind.u8.wrap (v.fdiv 256))]) (0 + (IntKind.i64.wrap (p + 5)).toNat * 1) [AV.int IntKind.u8 (IntKind.u8.wrap ((v.fdiv 256).fdiv 256))]) (0 + (IntKind.i64.wrap (p + 4)).toNat * 1) [AV.int IntKind.u8 (IntKind.u8.wrap (((v.fdiv 256).fdiv 256).fdiv 256))]).length ∧ [AV.int IntKind.u8 (IntKind.u8.wrap ((((v.fdiv 256).fdiv 256).fdiv 256).fdiv 256))].all AV.isCell = true then
 (if 0 ≤ IntKind.i64.wrap (p + 2) ∧ IntKind.i64.wrap (p + 2) < (l.length : Int) then
 (if 0 + (IntKind.i64.wrap (p + 2)).toNat * 1 + [AV.int IntKind.u8 (IntKind.u8.wrap (((((v.fdiv 256).fdiv 256).fdiv 256).fdiv 256).fdiv 256))].length ≤ (putCells (putCells (putCells (putCells (putCells (bys l) (0 + (IntKind.i64.wrap (p + 7)).toNat * 1) [AV.int IntKind.u8 (IntKind.u8.wrap v)]) (0 + (IntKind.i64.wrap (p + 6)).toNat * 1) [AV.int IntKind.u8 (IntKind.u8.wrap (v.fdiv 256))]) (0 + (IntKind.i64.wrap (p + 5)).toNat * 1) [AV.int IntKind.u8 (IntKind.u8.wrap ((v.fdiv 256).fdiv 256))]) (0 + (IntKind.i64.wrap (p + 4)).toNat * 1) [AV.int IntKind.u8 (IntKind.u8.wrap (((v.fdiv 256).fdiv 256).fdiv 256))]) (0 + (IntKind.i64.wrap (p + 3)).toNat * 1) [AV.int IntKind.u8 (IntKind.u8.wrap ((((v.fdiv 256).fdiv 256).fdiv 256).fdiv 256))]).length ∧ [AV.int IntKind.u8 (IntKind.u8.wrap (((((v.fdiv 256).fdiv 256).fdiv 256).fdiv 256).fdiv 256))].all AV.isCell = true then
 (if 0 ≤ IntKind.i64.wrap (p + 1) ∧ IntKind.i64.wrap (p + 1) < (l.length : Int) then
 (if 0 + (IntKind.i64.wrap (p + 1)).toNat * 1 + [AV.int IntKind.u8 (IntKind.u8.wrap ((((((v.fdiv 256).fdiv 256).fdiv 256).fdiv 256).fdiv 256).fdiv 256))].length ≤ (putCells (putCells (putCells (putCells (putCells (putCells (bys l) (0 + (IntKind.i64.wrap (p + 7)).toNat * 1) [AV.int IntKind.u8 (IntKind.u8.wrap v)]) (0 + (IntKind.i64.wrap (p + 6)).toNat * 1) [AV.int IntKind.u8 (IntKind.u8.wrap (v.fdiv 256))]) (0 + (IntKind.i64.wrap (p + 5)).toNat * 1) [AV.int IntKind.u8 (IntKind.u8.wrap ((v.fdiv 256).fdiv 256))]) (0 + (IntKind.i64.wrap (p + 4)).toNat * 1) [AV.int IntKind.u8 (IntKind.u8.wrap (((v.fdiv 256).fdiv 256).fdiv 256))]) (0 + (IntKind.i64.wrap (p + 3)).toNat * 1) [AV.int IntKind.u8 (IntKind.u8.wrap ((((v.fdiv 256).fdiv 256).fdiv 256).fdiv 256))]) (0 + (IntKind.i64.wrap (p + 2)).toNat * 1) [AV.int IntKind.u8 (IntKind.u8.wrap (((((v.fdiv 256).fdiv 256).fdiv 256).fdiv 256).fdiv 256))]).length ∧ [AV.int IntKind.u8 (IntKind.u8.wrap ((((((v.fdiv 256).fdiv 256).fdiv 256).fdiv 256).fdiv 256).fdiv 256))].all AV.isCell = true then
 (if 0 ≤ IntKind.i64.wrap (p + 0) ∧ IntKind.i64.wrap (p + 0) < (l.length : Int) then
 (if 0 + (IntKind.i64.wrap (p + 0)).toNat * 1 + [AV.int IntKind.u8 (IntKind.u8.wrap (((((((v.fdiv 256).fdiv 256).fdiv 256).fdiv 256).fdiv 256).fdiv 256).fdiv 256))].length ≤ (putCells (putCells (putCells (putCells (putCells (putCells (putCells (bys l) (0 + (IntKind.i64.wrap (p + 7)).toNat * 1) [AV.int IntKind.u8 (IntKind.u8.wrap v)]) (0 + (IntKind.i64.wrap (p + 6)).toNat * 1) [AV.int IntKind.u8 (IntKind.u8.wrap (v.fdiv 256))]) (0 + (IntKind.i64.wrap (p + 5)).toNat * 1) [AV.int IntKind.u8 (IntKind.u8.wrap ((v.fdiv 256).fdiv 256))]) (0 + (IntKind.i64.wrap (p + 4)).toNat * 1) [AV.int IntKind.u8 (IntKind.u8.wrap (((v.fdiv 256).fdiv 256).fdiv 256))]) (0 + (IntKind.i64.wrap (p + 3)).toNat * 1) [AV.int IntKind.u8 (IntKind.u8.wrap ((((v.fdiv 256).fdiv 256).fdiv 256).fdiv 256))]) (0 + (IntKind.i64.wrap (p + 2)).toNat * 1) [AV.int IntKind.u8 (IntKind.u8.wrap (((((v.fdiv 256).fdiv 256).fdiv 256).fdiv 256).fdiv 256))]) (0 + (IntKind.i64.wrap (p + 1)).toNat * 1) [AV.int IntKind.u8 (IntKind.u8.wrap ((((((v.fdiv 256).fdiv 256).fdiv 256).fdiv 256).fdiv 256).fdiv 256))]).length ∧ [AV.int IntKind.u8 (IntKind.u8.wrap (((((((v.fdiv 256).fdiv 256).fdiv 256).fdiv 256).fdiv 256).fdiv 256).fdiv 256))].all AV.isCell = true then
 K (AV.bool true) ((hPut641 l p v))
 else none) else none) else none) else none) else none) else none) else none) else none) else none) else none) else none) else none) else none) else none) else none) else none))
 else K (AV.bool false) ((hPut640 l p v)))
 else K (AV.bool false) ((hPut640 l p v))) := by
  kernel_rfl


theorem runPut8 (l : List UInt8) (p v : Int) (hl : l.length ≤ 1000000000000) (hv : 0 ≤ v ∧ v < 256 ^ 1) : Runs Try.prog 14 [slB 0 l, .int .i64 p, .int .u8 v] [ownB l] (.bool (decide (0 ≤ p ∧ p + 1 ≤ (l.length : Int)))) [ownB (putR l p 1 v)] := by
  refine Runs.ofT0 (find_nil _) (F := 100) (n := 4) (pr := []) ?_
  rw [nfPut8]
  by_cases h : 0 ≤ p ∧ p + 1 ≤ (l.length : Int)
  · obtain ⟨q, rfl⟩ := Int.eq_ofNat_of_zero_le h.1
    rw [decide_eq_true h, putR, if_pos (c := 0 ≤ (q : Int) ∧ (q : Int) + ((1 : Nat) : Int) ≤ (l.length : Int)) ⟨h.1, by omega⟩]
    have w1 : IntKind.i64.wrap ((l.length : Int) - q) = l.length - q := wrapI64 (by omega)
    have hq : q ≤ 1000000000000 := by omega
    have wv : IntKind.u64.wrap v = v := wrapU64 (by omega)
    have a0 : IntKind.i64.wrap ((q : Int) + 0) = ((q + 0 : Nat) : Int) := putA q 0 0 rfl hq (by decide)
    have b0 : 0 + ((q + 0 : Nat) : Int).toNat * 1 = q + 0 := putB q 0
    unfold hPut80 hPut81
    rw [w1, wv]
    simp only [a0, b0, putCells_byte]
    clear a0 b0 wv hv
    refine (if_pos (by simp)).trans ?_
    refine (if_pos (by simp; omega)).trans ?_
    refine (if_neg (by simp; omega)).trans ?_
    repeat (first | (refine (if_pos ?_).trans ?_; · first | (simp only [putCells_len, bys_length, List.length_cons, List.length_nil, List.length_set, List.all_cons, List.all_nil, isCell_int, Bool.and_self, and_true]; omega) | omega))
    have e := setsDown_eq 1 l q v (by omega)
    simp only [Int.toNat_natCast]
    rw [← e]
    simp only [setsDown]
  · rw [decide_eq_false h, putR, if_neg (c := 0 ≤ p ∧ p + ((1 : Nat) : Int) ≤ (l.length : Int)) (by omega)]
    by_cases h0 : 0 ≤ p
    · refine (if_pos (by simpa using h0)).trans ?_
      by_cases h1 : p ≤ (l.length : Int)
      · have w1 : IntKind.i64.wrap ((l.length : Int) - p) = l.length - p := wrapI64 (by omega)
        rw [w1]
        refine (if_pos (by simpa using h1)).trans ?_
        exact if_pos (by simp; omega)
      · exact if_neg (by simpa using h1)
    · exact if_neg (by simpa using h0)

noncomputable def ePut8 : GEnt := fun args h => match args with
  | [.sl (some (i, o)) n r e, .int .i64 p, .int .u8 v] => match h[i]? with
    | some (.cells vs esz .own par) => some (cdec (o = 0 ∧ r = 0 ∧ e = false ∧ esz = 1 ∧ n = vs.length ∧ n ≤ 1000000000000 ∧ vs.all isByteR = true ∧ 0 ≤ v ∧ v < 256 ^ 1 ∧ par ≠ some i),
        .bool (decide (0 ≤ p ∧ p + 1 ≤ (n : Int))), (killp h par).set i (ownB (putR (vs.map byteD) p 1 v)))
    | _ => none
  | _ => none

theorem sPut8 : SoundE Try.prog 14 (entF ePut8) := by
  refine frame_sound fun args h v h' hg => ?_
  unfold ePut8 at hg
  split at hg
  · rename_i i o n r e p x
    split at hg
    · rename_i vs esz par hb
      simp only [Option.some.injEq, Prod.mk.injEq] at hg
      obtain ⟨hc, rfl, rfl⟩ := hg
      rw [cdec_true] at hc
      obtain ⟨rfl, rfl, rfl, rfl, rfl, hn, hv, hx0, hx1, hpar⟩ := hc
      have hvs := bytes_of hv
      generalize vs.map byteD = l at hvs
      subst hvs
      rw [bys_length] at hn ⊢
      exact frame_one (args := fun i => [.sl (some (i, 0)) l.length 0 false, .int .i64 p, .int .u8 x]) hb hpar (fun _ _ hr => .cons _ _ _ _ (.sl _ _ _ _ _ _ hr) (.free _ rfl)) (runPut8 l p x hn ⟨hx0, hx1⟩) (bys_frees _) rfl
    · simp at hg
  · simp at hg


theorem runPut16 (l : List UInt8) (p v : Int) (hl : l.length ≤ 1000000000000) (hv : 0 ≤ v ∧ v < 256 ^ 2) : Runs Try.prog 16 [slB 0 l, .int .i64 p, .int .u16 v] [ownB l] (.bool (decide (0 ≤ p ∧ p + 2 ≤ (l.length : Int)))) [ownB (putR l p 2 v)] := by
  refine Runs.ofT0 (find_nil _) (F := 100) (n := 4) (pr := []) ?_
  rw [nfPut16]
  by_cases h : 0 ≤ p ∧ p + 2 ≤ (l.length : Int)
  · obtain ⟨q, rfl⟩ := Int.eq_ofNat_of_zero_le h.1
    rw [decide_eq_true h, putR, if_pos (c := 0 ≤ (q : Int) ∧ (q : Int) + ((2 : Nat) : Int) ≤ (l.length : Int)) ⟨h.1, by omega⟩]
    have w1 : IntKind.i64.wrap ((l.length : Int) - q) = l.length - q := wrapI64 (by omega)
    have hq : q ≤ 1000000000000 := by omega
    have wv : IntKind.u64.wrap v = v := wrapU64 (by omega)
    have a0 : IntKind.i64.wrap ((q : Int) + 0) = ((q + 0 : Nat) : Int) := putA q 0 0 rfl hq (by decide)
    have b0 : 0 + ((q + 0 : Nat) : Int).toNat * 1 = q + 0 := putB q 0
    have a1 : IntKind.i64.wrap ((q : Int) + 1) = ((q + 1 : Nat) : Int) := putA q 1 1 rfl hq (by decide)
    have b1 : 0 + ((q + 1 : Nat) : Int).toNat * 1 = q + 1 := putB q 1
    unfold hPut160 hPut161
    rw [w1, wv]
    simp only [a0, a1, b0, b1, putCells_byte]
    clear a0 b0 a1 b1 wv hv
    refine (if_pos (by simp)).trans ?_
    refine (if_pos (by simp; omega)).trans ?_
    refine (if_neg (by simp; omega)).trans ?_
    repeat (first | (refine (if_pos ?_).trans ?_; · first | (simp only [putCells_len, bys_length, List.length_cons, List.length_nil, List.length_set, List.all_cons, List.all_nil, isCell_int, Bool.and_self, and_true]; omega) | omega))
    have e := setsDown_eq 2 l q v (by omega)
    simp only [Int.toNat_natCast]
    rw [← e]
    simp only [setsDown]
  · rw [decide_eq_false h, putR, if_neg (c := 0 ≤ p ∧ p + ((2 : Nat) : Int) ≤ (l.length : Int)) (by omega)]
    by_cases h0 : 0 ≤ p
    · refine (if_pos (by simpa using h0)).trans ?_
      by_cases h1 : p ≤ (l.length : Int)
      · have w1 : IntKind.i64.wrap ((l.length : Int) - p) = l.length - p := wrapI64 (by omega)
        rw [w1]
        refine (if_pos (by simpa using h1)).trans ?_
        exact if_pos (by simp; omega)
      · exact if_neg (by simpa using h1)
    · exact if_neg (by simpa using h0)

noncomputable def ePut16 : GEnt := fun args h => match args with
  | [.sl (some (i, o)) n r e, .int .i64 p, .int .u16 v] => match h[i]? with
    | some (.cells vs esz .own par) => some (cdec (o = 0 ∧ r = 0 ∧ e = false ∧ esz = 1 ∧ n = vs.length ∧ n ≤ 1000000000000 ∧ vs.all isByteR = true ∧ 0 ≤ v ∧ v < 256 ^ 2 ∧ par ≠ some i),
        .bool (decide (0 ≤ p ∧ p + 2 ≤ (n : Int))), (killp h par).set i (ownB (putR (vs.map byteD) p 2 v)))
    | _ => none
  | _ => none

theorem sPut16 : SoundE Try.prog 16 (entF ePut16) := by
  refine frame_sound fun args h v h' hg => ?_
  unfold ePut16 at hg
  split at hg
  · rename_i i o n r e p x
    split at hg
    · rename_i vs esz par hb
      simp only [Option.some.injEq, Prod.mk.injEq] at hg
      obtain ⟨hc, rfl, rfl⟩ := hg
      rw [cdec_true] at hc
      obtain ⟨rfl, rfl, rfl, rfl, rfl, hn, hv, hx0, hx1, hpar⟩ := hc
      have hvs := bytes_of hv
      generalize vs.map byteD = l at hvs
      subst hvs
      rw [bys_length] at hn ⊢
      exact frame_one (args := fun i => [.sl (some (i, 0)) l.length 0 false, .int .i64 p, .int .u16 x]) hb hpar (fun _ _ hr => .cons _ _ _ _ (.sl _ _ _ _ _ _ hr) (.free _ rfl)) (runPut16 l p x hn ⟨hx0, hx1⟩) (bys_frees _) rfl
    · simp at hg
  · simp at hg


theorem runPut32 (l : List UInt8) (p v : Int) (hl : l.length ≤ 1000000000000) (hv : 0 ≤ v ∧ v < 256 ^ 4) : Runs Try.prog 18 [slB 0 l, .int .i64 p, .int .u32 v] [ownB l] (.bool (decide (0 ≤ p ∧ p + 4 ≤ (l.length : Int)))) [ownB (putR l p 4 v)] := by
  refine Runs.ofT0 (find_nil _) (F := 100) (n := 4) (pr := []) ?_
  rw [nfPut32]
  by_cases h : 0 ≤ p ∧ p + 4 ≤ (l.length : Int)
  · obtain ⟨q, rfl⟩ := Int.eq_ofNat_of_zero_le h.1
    rw [decide_eq_true h, putR, if_pos (c := 0 ≤ (q : Int) ∧ (q : Int) + ((4 : Nat) : Int) ≤ (l.length : Int)) ⟨h.1, by omega⟩]
    have w1 : IntKind.i64.wrap ((l.length : Int) - q) = l.length - q := wrapI64 (by omega)
    have hq : q ≤ 1000000000000 := by omega
    have wv : IntKind.u64.wrap v = v := wrapU64 (by omega)
    have a0 : IntKind.i64.wrap ((q : Int) + 0) = ((q + 0 : Nat) : Int) := putA q 0 0 rfl hq (by decide)
    have b0 : 0 + ((q + 0 : Nat) : Int).toNat * 1 = q + 0 := putB q 0
    have a1 : IntKind.i64.wrap ((q : Int) + 1) = ((q + 1 : Nat) : Int) := putA q 1 1 rfl hq (by decide)
    have b1 : 0 + ((q + 1 : Nat) : Int).toNat * 1 = q + 1 := putB q 1
    have a2 : IntKind.i64.wrap ((q : Int) + 2) = ((q + 2 : Nat) : Int) := putA q 2 2 rfl hq (by decide)
    have b2 : 0 + ((q + 2 : Nat) : Int).toNat * 1 = q + 2 := putB q 2
    have a3 : IntKind.i64.wrap ((q : Int) + 3) = ((q + 3 : Nat) : Int) := putA q 3 3 rfl hq (by decide)
    have b3 : 0 + ((q + 3 : Nat) : Int).toNat * 1 = q + 3 := putB q 3
    unfold hPut320 hPut321
    rw [w1, wv]
    simp only [a0, a1, a2, a3, b0, b1, b2, b3, putCells_byte]
    clear a0 b0 a1 b1 a2 b2 a3 b3 wv hv
    refine (if_pos (by simp)).trans ?_
    refine (if_pos (by simp; omega)).trans ?_
    refine (if_neg (by simp; omega)).trans ?_
    repeat (first | (refine (if_pos ?_).trans ?_; · first | (simp only [putCells_len, bys_length, List.length_cons, List.length_nil, List.length_set, List.all_cons, List.all_nil, isCell_int, Bool.and_self, and_true]; omega) | omega))
    have e := setsDown_eq 4 l q v (by omega)
    simp only [Int.toNat_natCast]
    rw [← e]
    simp only [setsDown]
  · rw [decide_eq_false h, putR, if_neg (c := 0 ≤ p ∧ p + ((4 : Nat) : Int) ≤ (l.length : Int)) (by omega)]
    by_cases h0 : 0 ≤ p
    · refine (if_pos (by simpa using h0)).trans ?_
      by_cases h1 : p ≤ (l.length : Int)
      · have w1 : IntKind.i64.wrap ((l.length : Int) - p) = l.length - p := wrapI64 (by omega)
        rw [w1]
        refine (if_pos (by simpa using h1)).trans ?_
        exact if_pos (by simp; omega)
      · exact if_neg (by simpa using h1)
    · exact if_neg (by simpa using h0)

noncomputable def ePut32 : GEnt := fun args h => match args with
  | [.sl (some (i, o)) n r e, .int .i64 p, .int .u32 v] => match h[i]? with
    | some (.cells vs esz .own par) => some (cdec (o = 0 ∧ r = 0 ∧ e = false ∧ esz = 1 ∧ n = vs.length ∧ n ≤ 1000000000000 ∧ vs.all isByteR = true ∧ 0 ≤ v ∧ v < 256 ^ 4 ∧ par ≠ some i),
        .bool (decide (0 ≤ p ∧ p + 4 ≤ (n : Int))), (killp h par).set i (ownB (putR (vs.map byteD) p 4 v)))
    | _ => none
  | _ => none

theorem sPut32 : SoundE Try.prog 18 (entF ePut32) := by
  refine frame_sound fun args h v h' hg => ?_
  unfold ePut32 at hg
  split at hg
  · rename_i i o n r e p x
    split at hg
    · rename_i vs esz par hb
      simp only [Option.some.injEq, Prod.mk.injEq] at hg
      obtain ⟨hc, rfl, rfl⟩ := hg
      rw [cdec_true] at hc
      obtain ⟨rfl, rfl, rfl, rfl, rfl, hn, hv, hx0, hx1, hpar⟩ := hc
      have hvs := bytes_of hv
      generalize vs.map byteD = l at hvs
      subst hvs
      rw [bys_length] at hn ⊢
      exact frame_one (args := fun i => [.sl (some (i, 0)) l.length 0 false, .int .i64 p, .int .u32 x]) hb hpar (fun _ _ hr => .cons _ _ _ _ (.sl _ _ _ _ _ _ hr) (.free _ rfl)) (runPut32 l p x hn ⟨hx0, hx1⟩) (bys_frees _) rfl
    · simp at hg
  · simp at hg


theorem runPut64 (l : List UInt8) (p v : Int) (hl : l.length ≤ 1000000000000) (hv : 0 ≤ v ∧ v < 256 ^ 8) : Runs Try.prog 20 [slB 0 l, .int .i64 p, .int .u64 v] [ownB l] (.bool (decide (0 ≤ p ∧ p + 8 ≤ (l.length : Int)))) [ownB (putR l p 8 v)] := by
  refine Runs.ofT0 (find_nil _) (F := 100) (n := 4) (pr := []) ?_
  rw [nfPut64]
  by_cases h : 0 ≤ p ∧ p + 8 ≤ (l.length : Int)
  · obtain ⟨q, rfl⟩ := Int.eq_ofNat_of_zero_le h.1
    rw [decide_eq_true h, putR, if_pos (c := 0 ≤ (q : Int) ∧ (q : Int) + ((8 : Nat) : Int) ≤ (l.length : Int)) ⟨h.1, by omega⟩]
    have w1 : IntKind.i64.wrap ((l.length : Int) - q) = l.length - q := wrapI64 (by omega)
    have hq : q ≤ 1000000000000 := by omega
    have wv : IntKind.u64.wrap v = v := wrapU64 (by omega)
    have a0 : IntKind.i64.wrap ((q : Int) + 0) = ((q + 0 : Nat) : Int) := putA q 0 0 rfl hq (by decide)
    have b0 : 0 + ((q + 0 : Nat) : Int).toNat * 1 = q + 0 := putB q 0
    have a1 : IntKind.i64.wrap ((q : Int) + 1) = ((q + 1 : Nat) : Int) := putA q 1 1 rfl hq (by decide)
    have b1 : 0 + ((q + 1 : Nat) : Int).toNat * 1 = q + 1 := putB q 1
    have a2 : IntKind.i64.wrap ((q : Int) + 2) = ((q + 2 : Nat) : Int) := putA q 2 2 rfl hq (by decide)
    have b2 : 0 + ((q + 2 : Nat) : Int).toNat * 1 = q + 2 := putB q 2
    have a3 : IntKind.i64.wrap ((q : Int) + 3) = ((q + 3 : Nat) : Int) := putA q 3 3 rfl hq (by decide)
    have b3 : 0 + ((q + 3 : Nat) : Int).toNat * 1 = q + 3 := putB q 3
    have a4 : IntKind.i64.wrap ((q : Int) + 4) = ((q + 4 : Nat) : Int) := putA q 4 4 rfl hq (by decide)
    have b4 : 0 + ((q + 4 : Nat) : Int).toNat * 1 = q + 4 := putB q 4
    have a5 : IntKind.i64.wrap ((q : Int) + 5) = ((q + 5 : Nat) : Int) := putA q 5 5 rfl hq (by decide)
    have b5 : 0 + ((q + 5 : Nat) : Int).toNat * 1 = q + 5 := putB q 5
    have a6 : IntKind.i64.wrap ((q : Int) + 6) = ((q + 6 : Nat) : Int) := putA q 6 6 rfl hq (by decide)
    have b6 : 0 + ((q + 6 : Nat) : Int).toNat * 1 = q + 6 := putB q 6
    have a7 : IntKind.i64.wrap ((q : Int) + 7) = ((q + 7 : Nat) : Int) := putA q 7 7 rfl hq (by decide)
    have b7 : 0 + ((q + 7 : Nat) : Int).toNat * 1 = q + 7 := putB q 7
    unfold hPut640 hPut641
    rw [w1]
    simp only [a0, a1, a2, a3, a4, a5, a6, a7, b0, b1, b2, b3, b4, b5, b6, b7, putCells_byte]
    clear a0 b0 a1 b1 a2 b2 a3 b3 a4 b4 a5 b5 a6 b6 a7 b7 wv hv
    refine (if_pos (by simp)).trans ?_
    refine (if_pos (by simp; omega)).trans ?_
    refine (if_neg (by simp; omega)).trans ?_
    repeat (first | (refine (if_pos ?_).trans ?_; · first | (simp only [putCells_len, bys_length, List.length_cons, List.length_nil, List.length_set, List.all_cons, List.all_nil, isCell_int, Bool.and_self, and_true]; omega) | omega))
    have e := setsDown_eq 8 l q v (by omega)
    simp only [Int.toNat_natCast]
    rw [← e]
    simp only [setsDown]
  · rw [decide_eq_false h, putR, if_neg (c := 0 ≤ p ∧ p + ((8 : Nat) : Int) ≤ (l.length : Int)) (by omega)]
    by_cases h0 : 0 ≤ p
    · refine (if_pos (by simpa using h0)).trans ?_
      by_cases h1 : p ≤ (l.length : Int)
      · have w1 : IntKind.i64.wrap ((l.length : Int) - p) = l.length - p := wrapI64 (by omega)
        rw [w1]
        refine (if_pos (by simpa using h1)).trans ?_
        exact if_pos (by simp; omega)
      · exact if_neg (by simpa using h1)
    · exact if_neg (by simpa using h0)

noncomputable def ePut64 : GEnt := fun args h => match args with
  | [.sl (some (i, o)) n r e, .int .i64 p, .int .u64 v] => match h[i]? with
    | some (.cells vs esz .own par) => some (cdec (o = 0 ∧ r = 0 ∧ e = false ∧ esz = 1 ∧ n = vs.length ∧ n ≤ 1000000000000 ∧ vs.all isByteR = true ∧ 0 ≤ v ∧ v < 256 ^ 8 ∧ par ≠ some i),
        .bool (decide (0 ≤ p ∧ p + 8 ≤ (n : Int))), (killp h par).set i (ownB (putR (vs.map byteD) p 8 v)))
    | _ => none
  | _ => none

theorem sPut64 : SoundE Try.prog 20 (entF ePut64) := by
  refine frame_sound fun args h v h' hg => ?_
  unfold ePut64 at hg
  split at hg
  · rename_i i o n r e p x
    split at hg
    · rename_i vs esz par hb
      simp only [Option.some.injEq, Prod.mk.injEq] at hg
      obtain ⟨hc, rfl, rfl⟩ := hg
      rw [cdec_true] at hc
      obtain ⟨rfl, rfl, rfl, rfl, rfl, hn, hv, hx0, hx1, hpar⟩ := hc
      have hvs := bytes_of hv
      generalize vs.map byteD = l at hvs
      subst hvs
      rw [bys_length] at hn ⊢
      exact frame_one (args := fun i => [.sl (some (i, 0)) l.length 0 false, .int .i64 p, .int .u64 x]) hb hpar (fun _ _ hr => .cons _ _ _ _ (.sl _ _ _ _ _ _ hr) (.free _ rfl)) (runPut64 l p x hn ⟨hx0, hx1⟩) (bys_frees _) rfl
    · simp at hg
  · simp at hg


end Go.Proofs.Ytejbipoibpefnaa.L
