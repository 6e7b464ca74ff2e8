/- SegSums' run: what the kernel makes of it. -/
import Derived.Test.YtmlenlfhciapfaaOfK
import Derived.Test.YtmlenlfhciapfaaGood
import Derived.Test.YtmlenlfhciapfaaAwake7
set_option autoImplicit false
set_option maxRecDepth 100000
set_option linter.unusedVariables false
set_option linter.unusedSimpArgs false
namespace Go.Proofs.Ytmlenlfhciapfaa.L
open Go Go.Abs
open Go.IntKind
open Go.Abs.AV (int)
open Go.Abs.ABlk (cells)

/-- Told by the number of blocks and the first row's block. -/
def toldLI : List (Nat × Nat × AV) → Nat → Nat → Option AV
  | [], _, _ => none
  | (k, j, x) :: l, n, i => bif k.beq n && j.beq i then some x else toldLI l n i
noncomputable def eSayLI (e : GEnt) (l : List (Nat × Nat × AV)) : GEnt := fun args h => match (idxOf args).bind (toldLI l h.length) with
  | some v => some (cdec (Says e args h v []), v, h)
  | none => none
theorem sSayLI {P : Program} {f : FuncId} {e : GEnt} (h : SoundE P f (entF e)) (l : List (Nat × Nat × AV)) : SoundE P f (entF (eSayLI e l)) := by
  refine entF_sound h fun args hp v h' hg => ?_
  unfold eSayLI at hg
  split at hg
  · simp only [Option.some.injEq, Prod.mk.injEq] at hg
    obtain ⟨hc, rfl, rfl⟩ := hg
    rw [cdec_true] at hc
    obtain ⟨he⟩ := hc
    change eRun e args hp (fun v h => some (v, h)) = _
    unfold eRun; rw [he, List.append_nil]; rfl
  · simp at hg
noncomputable def tSS (S : List UInt8) : Tbl := [(17, entF eKey), (20, entF eRound), (19, entF (eRel OfR [(2, slB 2 S, [ownB S])])),
  (15, entF (eSayLI eGoodS [(3, 2, .bool true), (6, 2, .bool false), (6, 5, .bool false)])), (9, entF eAwake)]
theorem tSSOk (S : List UInt8) : ∀ f E, (tSS S).find f = some E → SoundE Try.prog f E := find_cons sKey (find_cons sRound (find_cons (sOf _) (find_cons (sSayLI sGoodS _) (find_cons sAwake (find_nil _)))))
theorem nfSegSumsL {R : Type} (v : Bool) (n a q w : Int) (d S : List UInt8) (u : Bool) (K : AV → Option R) :
 qrun Try.prog (tSS S) 100 4 [(23, .bool true)] [] 7 [.int .i64 n, .bool v, .bool u, slB 0 d, .int .i64 a, .int .i64 q, .int .i64 w] [farB d] (fun v _ => K v) =
 (if decide ((d.length : Int) > 300) = true then
 K (AV.bool true)
 else none) := by
  kernel_rfl

noncomputable def hSegSumsT00 (v : Bool) (n a q w : Int) (d S : List UInt8) : AHeap := [cells (bys d) 1 Md.far none, cells [b8 6, AV.bool v, b8 10, b8 (kb1 n), b8 (kb2 n), b8 (kb3 n), b8 0, b8 0, b8 0, b8 0, b8 0, b8 0, b8 0, b8 0, b8 0, b8 0, b8 0, b8 0, AV.bool v, b8 192, b8 168, b8 0, b8 1, b8 0, b8 0, b8 0, b8 0, b8 0, b8 0, b8 0, b8 0, b8 0, b8 0, b8 0, b8 0, int u16 (kport n), int u16 80] 37 Md.own none]
noncomputable def hSegSumsT01 (v : Bool) (n a q w : Int) (d S : List UInt8) : AHeap := [cells (bys S) 1 Md.own none]
noncomputable def hSegSumsT02 (v : Bool) (n a q w : Int) (d S : List UInt8) : AHeap := [cells (bys d) 1 Md.far none, cells [b8 6, AV.bool v, b8 10, b8 (kb1 n), b8 (kb2 n), b8 (kb3 n), b8 0, b8 0, b8 0, b8 0, b8 0, b8 0, b8 0, b8 0, b8 0, b8 0, b8 0, b8 0, AV.bool v, b8 192, b8 168, b8 0, b8 1, b8 0, b8 0, b8 0, b8 0, b8 0, b8 0, b8 0, b8 0, b8 0, b8 0, b8 0, b8 0, int u16 (kport n), int u16 80] 37 Md.own none, cells (bys S) 1 Md.own none]
noncomputable def hSegSumsT03 (v : Bool) (n a q w : Int) (d S : List UInt8) : AHeap := []
noncomputable def hSegSumsT04 (v : Bool) (n a q w : Int) (d S : List UInt8) : AHeap := [cells (bys d) 1 Md.far none, cells [b8 6, AV.bool v, b8 10, b8 (kb1 n), b8 (kb2 n), b8 (kb3 n), b8 0, b8 0, b8 0, b8 0, b8 0, b8 0, b8 0, b8 0, b8 0, b8 0, b8 0, b8 0, AV.bool v, b8 192, b8 168, b8 0, b8 1, b8 0, b8 0, b8 0, b8 0, b8 0, b8 0, b8 0, b8 0, b8 0, b8 0, b8 0, b8 0, int u16 (kport n), int u16 80] 37 Md.own none, cells (bys S) 1 Md.own none, cells [AV.bool v, b8 (abits u8 (· ^^^ ·) (intV (some (b8 10))) (u8.wrap (1 * 2 ^ min (q % 8).toNat 8))), b8 (kb1 n), b8 (kb2 n), b8 (kb3 n), b8 0, b8 0, b8 0, b8 0, b8 0, b8 0, b8 0, b8 0, b8 0, b8 0, b8 0, b8 0] 17 Md.own none, ABlk.dead, cells (putCells (List.take (S.length * 1) (bys S)) (0 + (a % (((0 + S.length) : Nat) : Int)).toNat * 1) [b8 (abits u8 (· ^^^ ·) (intV (List.take (S.length * 1) (bys S))[0 + (a % (((0 + S.length) : Nat) : Int)).toNat * 1]?) (u8.wrap (1 * 2 ^ min (q % 8).toNat 8)))]) 1 Md.own none]
theorem nfSegSumsT0 {R : Type} (v : Bool) (n a q w : Int) (d S : List UInt8) (K : AV → Option R) :
 qrun Try.prog (tSS S) 100 4 [(23, .bool false), (34, .bool false), (49, .int .i64 0)] [] 7 [.int .i64 n, .bool v, .bool false, slB 0 d, .int .i64 a, .int .i64 q, .int .i64 w] [farB d] (fun v _ => K v) =
 (if decide ((d.length : Int) > 300) = false then
 (if cdec (OfR [AV.agg [b8 6, AV.bool v, b8 10, b8 (kb1 n), b8 (kb2 n), b8 (kb3 n), b8 0, b8 0, b8 0, b8 0, b8 0, b8 0, b8 0, b8 0, b8 0, b8 0, b8 0, b8 0, AV.bool v, b8 192, b8 168, b8 0, b8 1, b8 0, b8 0, b8 0, b8 0, b8 0, b8 0, b8 0, b8 0, b8 0, b8 0, b8 0, b8 0, int u16 (kport n), int u16 80], AV.sl (some (0, 0)) d.length 0 false, AV.bool false] (hSegSumsT00 v n a q w d S) (AV.sl (some (2, 0)) S.length 0 false) (hSegSumsT01 v n a q w d S)) = true then
 (if decide ((S.length : Int) < 8) = false then
 (if cdec (Says eGoodS [b8 (intV (some (b8 6))), AV.sl (some (2, 0)) S.length 0 false, AV.agg [AV.bool v, b8 10, b8 (kb1 n), b8 (kb2 n), b8 (kb3 n), b8 0, b8 0, b8 0, b8 0, b8 0, b8 0, b8 0, b8 0, b8 0, b8 0, b8 0, b8 0], AV.agg [AV.bool v, b8 192, b8 168, b8 0, b8 1, b8 0, b8 0, b8 0, b8 0, b8 0, b8 0, b8 0, b8 0, b8 0, b8 0, b8 0, b8 0]] (hSegSumsT02 v n a q w d S) (AV.bool true) (hSegSumsT03 v n a q w d S)) = true then
 (if i64 = i64 ∧ w % 4 = 0 then
 (if q % 8 < 0 then
 none
 else (if 0 + S.length * 1 ≤ (bys S).length then
 (if (2 * (0 + S.length) + 200) * 1 ≤ 281474976710656 ∧ some 1 = some 1 ∧ 0 + S.length ≤ 70368744177664 then
 (if 0 = 0 ∧ 0 = 0 ∧ (0 < S.length ∨ 0 = 0) ∧ 1 = 1 ∧ (List.take (S.length * 1) (bys S)).all AV.isCell = true then
 (if decide (0 < (((0 + S.length) : Nat) : Int) ∧ (((0 + S.length) : Nat) : Int) < 4611686018427387904) = true then
 (if 0 ≤ a % (((0 + S.length) : Nat) : Int) ∧ a % (((0 + S.length) : Nat) : Int) < (((0 + S.length) : Nat) : Int) then
 (if isIntV u8 (List.take (S.length * 1) (bys S))[0 + (a % (((0 + S.length) : Nat) : Int)).toNat * 1]? = true then
 (if q % 8 < 0 then
 none
 else (if 0 ≤ a % (((0 + S.length) : Nat) : Int) ∧ a % (((0 + S.length) : Nat) : Int) < (((0 + S.length) : Nat) : Int) then
 (if 0 + (a % (((0 + S.length) : Nat) : Int)).toNat * 1 + [b8 (abits u8 (· ^^^ ·) (intV (List.take (S.length * 1) (bys S))[0 + (a % (((0 + S.length) : Nat) : Int)).toNat * 1]?) (u8.wrap (1 * 2 ^ min (q % 8).toNat 8)))].length ≤ (List.take (S.length * 1) (bys S)).length ∧ [b8 (abits u8 (· ^^^ ·) (intV (List.take (S.length * 1) (bys S))[0 + (a % (((0 + S.length) : Nat) : Int)).toNat * 1]?) (u8.wrap (1 * 2 ^ min (q % 8).toNat 8)))].all AV.isCell = true then
 (if isIntV u8 (List.take (S.length * 1) (bys S))[0 + (a % (((0 + S.length) : Nat) : Int)).toNat * 1]? = true then
 (if (b8 (intV (List.take (S.length * 1) (bys S))[0 + (a % (((0 + S.length) : Nat) : Int)).toNat * 1]?)).beq (b8 (intV (List.take (S.length * 1) (bys S))[0 + (a % (((0 + S.length) : Nat) : Int)).toNat * 1]?)) = true then
 (if cdec (Says eGoodS [b8 (intV (some (b8 6))), AV.sl (some (2, 0)) S.length 0 false, AV.agg [AV.bool v, b8 (abits u8 (· ^^^ ·) (intV (some (b8 10))) (u8.wrap (1 * 2 ^ min (q % 8).toNat 8))), b8 (kb1 n), b8 (kb2 n), b8 (kb3 n), b8 0, b8 0, b8 0, b8 0, b8 0, b8 0, b8 0, b8 0, b8 0, b8 0, b8 0, b8 0], AV.agg [AV.bool v, b8 192, b8 168, b8 0, b8 1, b8 0, b8 0, b8 0, b8 0, b8 0, b8 0, b8 0, b8 0, b8 0, b8 0, b8 0, b8 0]] (hSegSumsT04 v n a q w d S) (AV.bool false) (hSegSumsT03 v n a q w d S)) = true then
 (if cdec (Says eGoodS [b8 (intV (some (b8 6))), AV.sl (some (5, 0)) (0 + S.length) 0 false, AV.agg [AV.bool v, b8 10, b8 (kb1 n), b8 (kb2 n), b8 (kb3 n), b8 0, b8 0, b8 0, b8 0, b8 0, b8 0, b8 0, b8 0, b8 0, b8 0, b8 0, b8 0], AV.agg [AV.bool v, b8 192, b8 168, b8 0, b8 1, b8 0, b8 0, b8 0, b8 0, b8 0, b8 0, b8 0, b8 0, b8 0, b8 0, b8 0, b8 0]] (hSegSumsT04 v n a q w d S) (AV.bool false) (hSegSumsT03 v n a q w d S)) = true then
 K (AV.bool true)
 else none) else none) else none) else none) else none) else none))
 else none) else none) else none) else none) else none) else none))
 else none) else none) else none) else none) else none) := by
  kernel_rfl

noncomputable def hSegSumsT10 (v : Bool) (n a q w : Int) (d S : List UInt8) : AHeap := [cells (bys d) 1 Md.far none, cells [b8 6, AV.bool v, b8 10, b8 (kb1 n), b8 (kb2 n), b8 (kb3 n), b8 0, b8 0, b8 0, b8 0, b8 0, b8 0, b8 0, b8 0, b8 0, b8 0, b8 0, b8 0, AV.bool v, b8 192, b8 168, b8 0, b8 1, b8 0, b8 0, b8 0, b8 0, b8 0, b8 0, b8 0, b8 0, b8 0, b8 0, b8 0, b8 0, int u16 (kport n), int u16 80] 37 Md.own none]
noncomputable def hSegSumsT11 (v : Bool) (n a q w : Int) (d S : List UInt8) : AHeap := [cells (bys S) 1 Md.own none]
noncomputable def hSegSumsT12 (v : Bool) (n a q w : Int) (d S : List UInt8) : AHeap := [cells (bys d) 1 Md.far none, cells [b8 6, AV.bool v, b8 10, b8 (kb1 n), b8 (kb2 n), b8 (kb3 n), b8 0, b8 0, b8 0, b8 0, b8 0, b8 0, b8 0, b8 0, b8 0, b8 0, b8 0, b8 0, AV.bool v, b8 192, b8 168, b8 0, b8 1, b8 0, b8 0, b8 0, b8 0, b8 0, b8 0, b8 0, b8 0, b8 0, b8 0, b8 0, b8 0, int u16 (kport n), int u16 80] 37 Md.own none, cells (bys S) 1 Md.own none]
noncomputable def hSegSumsT13 (v : Bool) (n a q w : Int) (d S : List UInt8) : AHeap := []
noncomputable def hSegSumsT14 (v : Bool) (n a q w : Int) (d S : List UInt8) : AHeap := [cells (bys d) 1 Md.far none, cells [b8 6, AV.bool v, b8 10, b8 (kb1 n), b8 (kb2 n), b8 (kb3 n), b8 0, b8 0, b8 0, b8 0, b8 0, b8 0, b8 0, b8 0, b8 0, b8 0, b8 0, b8 0, AV.bool v, b8 192, b8 168, b8 0, b8 1, b8 0, b8 0, b8 0, b8 0, b8 0, b8 0, b8 0, b8 0, b8 0, b8 0, b8 0, b8 0, int u16 (kport n), int u16 80] 37 Md.own none, cells (bys S) 1 Md.own none, cells [AV.bool v, b8 10, b8 (abits u8 (· ^^^ ·) (intV (some (b8 (kb1 n)))) (u8.wrap (1 * 2 ^ min (q % 8).toNat 8))), b8 (kb2 n), b8 (kb3 n), b8 0, b8 0, b8 0, b8 0, b8 0, b8 0, b8 0, b8 0, b8 0, b8 0, b8 0, b8 0] 17 Md.own none, ABlk.dead, cells (putCells (List.take (S.length * 1) (bys S)) (0 + (a % (((0 + S.length) : Nat) : Int)).toNat * 1) [b8 (abits u8 (· ^^^ ·) (intV (List.take (S.length * 1) (bys S))[0 + (a % (((0 + S.length) : Nat) : Int)).toNat * 1]?) (u8.wrap (1 * 2 ^ min (q % 8).toNat 8)))]) 1 Md.own none]
theorem nfSegSumsT1 {R : Type} (v : Bool) (n a q w : Int) (d S : List UInt8) (K : AV → Option R) :
 qrun Try.prog (tSS S) 100 4 [(23, .bool false), (34, .bool false), (49, .int .i64 1)] [] 7 [.int .i64 n, .bool v, .bool false, slB 0 d, .int .i64 a, .int .i64 q, .int .i64 w] [farB d] (fun v _ => K v) =
 (if decide ((d.length : Int) > 300) = false then
 (if cdec (OfR [AV.agg [b8 6, AV.bool v, b8 10, b8 (kb1 n), b8 (kb2 n), b8 (kb3 n), b8 0, b8 0, b8 0, b8 0, b8 0, b8 0, b8 0, b8 0, b8 0, b8 0, b8 0, b8 0, AV.bool v, b8 192, b8 168, b8 0, b8 1, b8 0, b8 0, b8 0, b8 0, b8 0, b8 0, b8 0, b8 0, b8 0, b8 0, b8 0, b8 0, int u16 (kport n), int u16 80], AV.sl (some (0, 0)) d.length 0 false, AV.bool false] (hSegSumsT10 v n a q w d S) (AV.sl (some (2, 0)) S.length 0 false) (hSegSumsT11 v n a q w d S)) = true then
 (if decide ((S.length : Int) < 8) = false then
 (if cdec (Says eGoodS [b8 (intV (some (b8 6))), AV.sl (some (2, 0)) S.length 0 false, AV.agg [AV.bool v, b8 10, b8 (kb1 n), b8 (kb2 n), b8 (kb3 n), b8 0, b8 0, b8 0, b8 0, b8 0, b8 0, b8 0, b8 0, b8 0, b8 0, b8 0, b8 0], AV.agg [AV.bool v, b8 192, b8 168, b8 0, b8 1, b8 0, b8 0, b8 0, b8 0, b8 0, b8 0, b8 0, b8 0, b8 0, b8 0, b8 0, b8 0]] (hSegSumsT12 v n a q w d S) (AV.bool true) (hSegSumsT13 v n a q w d S)) = true then
 (if i64 = i64 ∧ w % 4 = 1 then
 (if q % 8 < 0 then
 none
 else (if (b8 (intV (some (b8 (kb1 n))))).beq (b8 (intV (some (b8 (kb1 n))))) = true then
 (if 0 + S.length * 1 ≤ (bys S).length then
 (if (2 * (0 + S.length) + 200) * 1 ≤ 281474976710656 ∧ some 1 = some 1 ∧ 0 + S.length ≤ 70368744177664 then
 (if 0 = 0 ∧ 0 = 0 ∧ (0 < S.length ∨ 0 = 0) ∧ 1 = 1 ∧ (List.take (S.length * 1) (bys S)).all AV.isCell = true then
 (if decide (0 < (((0 + S.length) : Nat) : Int) ∧ (((0 + S.length) : Nat) : Int) < 4611686018427387904) = true then
 (if 0 ≤ a % (((0 + S.length) : Nat) : Int) ∧ a % (((0 + S.length) : Nat) : Int) < (((0 + S.length) : Nat) : Int) then
 (if isIntV u8 (List.take (S.length * 1) (bys S))[0 + (a % (((0 + S.length) : Nat) : Int)).toNat * 1]? = true then
 (if q % 8 < 0 then
 none
 else (if 0 ≤ a % (((0 + S.length) : Nat) : Int) ∧ a % (((0 + S.length) : Nat) : Int) < (((0 + S.length) : Nat) : Int) then
 (if 0 + (a % (((0 + S.length) : Nat) : Int)).toNat * 1 + [b8 (abits u8 (· ^^^ ·) (intV (List.take (S.length * 1) (bys S))[0 + (a % (((0 + S.length) : Nat) : Int)).toNat * 1]?) (u8.wrap (1 * 2 ^ min (q % 8).toNat 8)))].length ≤ (List.take (S.length * 1) (bys S)).length ∧ [b8 (abits u8 (· ^^^ ·) (intV (List.take (S.length * 1) (bys S))[0 + (a % (((0 + S.length) : Nat) : Int)).toNat * 1]?) (u8.wrap (1 * 2 ^ min (q % 8).toNat 8)))].all AV.isCell = true then
 (if isIntV u8 (List.take (S.length * 1) (bys S))[0 + (a % (((0 + S.length) : Nat) : Int)).toNat * 1]? = true then
 (if (b8 (intV (List.take (S.length * 1) (bys S))[0 + (a % (((0 + S.length) : Nat) : Int)).toNat * 1]?)).beq (b8 (intV (List.take (S.length * 1) (bys S))[0 + (a % (((0 + S.length) : Nat) : Int)).toNat * 1]?)) = true then
 (if cdec (Says eGoodS [b8 (intV (some (b8 6))), AV.sl (some (2, 0)) S.length 0 false, AV.agg [AV.bool v, b8 10, b8 (abits u8 (· ^^^ ·) (intV (some (b8 (kb1 n)))) (u8.wrap (1 * 2 ^ min (q % 8).toNat 8))), b8 (kb2 n), b8 (kb3 n), b8 0, b8 0, b8 0, b8 0, b8 0, b8 0, b8 0, b8 0, b8 0, b8 0, b8 0, b8 0], AV.agg [AV.bool v, b8 192, b8 168, b8 0, b8 1, b8 0, b8 0, b8 0, b8 0, b8 0, b8 0, b8 0, b8 0, b8 0, b8 0, b8 0, b8 0]] (hSegSumsT14 v n a q w d S) (AV.bool false) (hSegSumsT13 v n a q w d S)) = true then
 (if cdec (Says eGoodS [b8 (intV (some (b8 6))), AV.sl (some (5, 0)) (0 + S.length) 0 false, AV.agg [AV.bool v, b8 10, b8 (kb1 n), b8 (kb2 n), b8 (kb3 n), b8 0, b8 0, b8 0, b8 0, b8 0, b8 0, b8 0, b8 0, b8 0, b8 0, b8 0, b8 0], AV.agg [AV.bool v, b8 192, b8 168, b8 0, b8 1, b8 0, b8 0, b8 0, b8 0, b8 0, b8 0, b8 0, b8 0, b8 0, b8 0, b8 0, b8 0]] (hSegSumsT14 v n a q w d S) (AV.bool false) (hSegSumsT13 v n a q w d S)) = true then
 K (AV.bool true)
 else none) else none) else none) else none) else none) else none))
 else none) else none) else none) else none) else none) else none) else none))
 else none) else none) else none) else none) else none) := by
  kernel_rfl

noncomputable def hSegSumsT20 (v : Bool) (n a q w : Int) (d S : List UInt8) : AHeap := [cells (bys d) 1 Md.far none, cells [b8 6, AV.bool v, b8 10, b8 (kb1 n), b8 (kb2 n), b8 (kb3 n), b8 0, b8 0, b8 0, b8 0, b8 0, b8 0, b8 0, b8 0, b8 0, b8 0, b8 0, b8 0, AV.bool v, b8 192, b8 168, b8 0, b8 1, b8 0, b8 0, b8 0, b8 0, b8 0, b8 0, b8 0, b8 0, b8 0, b8 0, b8 0, b8 0, int u16 (kport n), int u16 80] 37 Md.own none]
noncomputable def hSegSumsT21 (v : Bool) (n a q w : Int) (d S : List UInt8) : AHeap := [cells (bys S) 1 Md.own none]
noncomputable def hSegSumsT22 (v : Bool) (n a q w : Int) (d S : List UInt8) : AHeap := [cells (bys d) 1 Md.far none, cells [b8 6, AV.bool v, b8 10, b8 (kb1 n), b8 (kb2 n), b8 (kb3 n), b8 0, b8 0, b8 0, b8 0, b8 0, b8 0, b8 0, b8 0, b8 0, b8 0, b8 0, b8 0, AV.bool v, b8 192, b8 168, b8 0, b8 1, b8 0, b8 0, b8 0, b8 0, b8 0, b8 0, b8 0, b8 0, b8 0, b8 0, b8 0, b8 0, int u16 (kport n), int u16 80] 37 Md.own none, cells (bys S) 1 Md.own none]
noncomputable def hSegSumsT23 (v : Bool) (n a q w : Int) (d S : List UInt8) : AHeap := []
noncomputable def hSegSumsT24 (v : Bool) (n a q w : Int) (d S : List UInt8) : AHeap := [cells (bys d) 1 Md.far none, cells [b8 6, AV.bool v, b8 10, b8 (kb1 n), b8 (kb2 n), b8 (kb3 n), b8 0, b8 0, b8 0, b8 0, b8 0, b8 0, b8 0, b8 0, b8 0, b8 0, b8 0, b8 0, AV.bool v, b8 192, b8 168, b8 0, b8 1, b8 0, b8 0, b8 0, b8 0, b8 0, b8 0, b8 0, b8 0, b8 0, b8 0, b8 0, b8 0, int u16 (kport n), int u16 80] 37 Md.own none, cells (bys S) 1 Md.own none, cells [AV.bool v, b8 10, b8 (kb1 n), b8 (abits u8 (· ^^^ ·) (intV (some (b8 (kb2 n)))) (u8.wrap (1 * 2 ^ min (q % 8).toNat 8))), b8 (kb3 n), b8 0, b8 0, b8 0, b8 0, b8 0, b8 0, b8 0, b8 0, b8 0, b8 0, b8 0, b8 0] 17 Md.own none, ABlk.dead, cells (putCells (List.take (S.length * 1) (bys S)) (0 + (a % (((0 + S.length) : Nat) : Int)).toNat * 1) [b8 (abits u8 (· ^^^ ·) (intV (List.take (S.length * 1) (bys S))[0 + (a % (((0 + S.length) : Nat) : Int)).toNat * 1]?) (u8.wrap (1 * 2 ^ min (q % 8).toNat 8)))]) 1 Md.own none]
theorem nfSegSumsT2 {R : Type} (v : Bool) (n a q w : Int) (d S : List UInt8) (K : AV → Option R) :
 qrun Try.prog (tSS S) 100 4 [(23, .bool false), (34, .bool false), (49, .int .i64 2)] [] 7 [.int .i64 n, .bool v, .bool false, slB 0 d, .int .i64 a, .int .i64 q, .int .i64 w] [farB d] (fun v _ => K v) =
 (if decide ((d.length : Int) > 300) = false then
 (if cdec (OfR [AV.agg [b8 6, AV.bool v, b8 10, b8 (kb1 n), b8 (kb2 n), b8 (kb3 n), b8 0, b8 0, b8 0, b8 0, b8 0, b8 0, b8 0, b8 0, b8 0, b8 0, b8 0, b8 0, AV.bool v, b8 192, b8 168, b8 0, b8 1, b8 0, b8 0, b8 0, b8 0, b8 0, b8 0, b8 0, b8 0, b8 0, b8 0, b8 0, b8 0, int u16 (kport n), int u16 80], AV.sl (some (0, 0)) d.length 0 false, AV.bool false] (hSegSumsT20 v n a q w d S) (AV.sl (some (2, 0)) S.length 0 false) (hSegSumsT21 v n a q w d S)) = true then
 (if decide ((S.length : Int) < 8) = false then
 (if cdec (Says eGoodS [b8 (intV (some (b8 6))), AV.sl (some (2, 0)) S.length 0 false, AV.agg [AV.bool v, b8 10, b8 (kb1 n), b8 (kb2 n), b8 (kb3 n), b8 0, b8 0, b8 0, b8 0, b8 0, b8 0, b8 0, b8 0, b8 0, b8 0, b8 0, b8 0], AV.agg [AV.bool v, b8 192, b8 168, b8 0, b8 1, b8 0, b8 0, b8 0, b8 0, b8 0, b8 0, b8 0, b8 0, b8 0, b8 0, b8 0, b8 0]] (hSegSumsT22 v n a q w d S) (AV.bool true) (hSegSumsT23 v n a q w d S)) = true then
 (if i64 = i64 ∧ w % 4 = 2 then
 (if q % 8 < 0 then
 none
 else (if (b8 (intV (some (b8 (kb2 n))))).beq (b8 (intV (some (b8 (kb2 n))))) = true then
 (if 0 + S.length * 1 ≤ (bys S).length then
 (if (2 * (0 + S.length) + 200) * 1 ≤ 281474976710656 ∧ some 1 = some 1 ∧ 0 + S.length ≤ 70368744177664 then
 (if 0 = 0 ∧ 0 = 0 ∧ (0 < S.length ∨ 0 = 0) ∧ 1 = 1 ∧ (List.take (S.length * 1) (bys S)).all AV.isCell = true then
 (if decide (0 < (((0 + S.length) : Nat) : Int) ∧ (((0 + S.length) : Nat) : Int) < 4611686018427387904) = true then
 (if 0 ≤ a % (((0 + S.length) : Nat) : Int) ∧ a % (((0 + S.length) : Nat) : Int) < (((0 + S.length) : Nat) : Int) then
 (if isIntV u8 (List.take (S.length * 1) (bys S))[0 + (a % (((0 + S.length) : Nat) : Int)).toNat * 1]? = true then
 (if q % 8 < 0 then
 none
 else (if 0 ≤ a % (((0 + S.length) : Nat) : Int) ∧ a % (((0 + S.length) : Nat) : Int) < (((0 + S.length) : Nat) : Int) then
 (if 0 + (a % (((0 + S.length) : Nat) : Int)).toNat * 1 + [b8 (abits u8 (· ^^^ ·) (intV (List.take (S.length * 1) (bys S))[0 + (a % (((0 + S.length) : Nat) : Int)).toNat * 1]?) (u8.wrap (1 * 2 ^ min (q % 8).toNat 8)))].length ≤ (List.take (S.length * 1) (bys S)).length ∧ [b8 (abits u8 (· ^^^ ·) (intV (List.take (S.length * 1) (bys S))[0 + (a % (((0 + S.length) : Nat) : Int)).toNat * 1]?) (u8.wrap (1 * 2 ^ min (q % 8).toNat 8)))].all AV.isCell = true then
 (if isIntV u8 (List.take (S.length * 1) (bys S))[0 + (a % (((0 + S.length) : Nat) : Int)).toNat * 1]? = true then
 (if (b8 (intV (List.take (S.length * 1) (bys S))[0 + (a % (((0 + S.length) : Nat) : Int)).toNat * 1]?)).beq (b8 (intV (List.take (S.length * 1) (bys S))[0 + (a % (((0 + S.length) : Nat) : Int)).toNat * 1]?)) = true then
 (if cdec (Says eGoodS [b8 (intV (some (b8 6))), AV.sl (some (2, 0)) S.length 0 false, AV.agg [AV.bool v, b8 10, b8 (kb1 n), b8 (abits u8 (· ^^^ ·) (intV (some (b8 (kb2 n)))) (u8.wrap (1 * 2 ^ min (q % 8).toNat 8))), b8 (kb3 n), b8 0, b8 0, b8 0, b8 0, b8 0, b8 0, b8 0, b8 0, b8 0, b8 0, b8 0, b8 0], AV.agg [AV.bool v, b8 192, b8 168, b8 0, b8 1, b8 0, b8 0, b8 0, b8 0, b8 0, b8 0, b8 0, b8 0, b8 0, b8 0, b8 0, b8 0]] (hSegSumsT24 v n a q w d S) (AV.bool false) (hSegSumsT23 v n a q w d S)) = true then
 (if cdec (Says eGoodS [b8 (intV (some (b8 6))), AV.sl (some (5, 0)) (0 + S.length) 0 false, AV.agg [AV.bool v, b8 10, b8 (kb1 n), b8 (kb2 n), b8 (kb3 n), b8 0, b8 0, b8 0, b8 0, b8 0, b8 0, b8 0, b8 0, b8 0, b8 0, b8 0, b8 0], AV.agg [AV.bool v, b8 192, b8 168, b8 0, b8 1, b8 0, b8 0, b8 0, b8 0, b8 0, b8 0, b8 0, b8 0, b8 0, b8 0, b8 0, b8 0]] (hSegSumsT24 v n a q w d S) (AV.bool false) (hSegSumsT23 v n a q w d S)) = true then
 K (AV.bool true)
 else none) else none) else none) else none) else none) else none))
 else none) else none) else none) else none) else none) else none) else none))
 else none) else none) else none) else none) else none) := by
  kernel_rfl

noncomputable def hSegSumsT30 (v : Bool) (n a q w : Int) (d S : List UInt8) : AHeap := [cells (bys d) 1 Md.far none, cells [b8 6, AV.bool v, b8 10, b8 (kb1 n), b8 (kb2 n), b8 (kb3 n), b8 0, b8 0, b8 0, b8 0, b8 0, b8 0, b8 0, b8 0, b8 0, b8 0, b8 0, b8 0, AV.bool v, b8 192, b8 168, b8 0, b8 1, b8 0, b8 0, b8 0, b8 0, b8 0, b8 0, b8 0, b8 0, b8 0, b8 0, b8 0, b8 0, int u16 (kport n), int u16 80] 37 Md.own none]
noncomputable def hSegSumsT31 (v : Bool) (n a q w : Int) (d S : List UInt8) : AHeap := [cells (bys S) 1 Md.own none]
noncomputable def hSegSumsT32 (v : Bool) (n a q w : Int) (d S : List UInt8) : AHeap := [cells (bys d) 1 Md.far none, cells [b8 6, AV.bool v, b8 10, b8 (kb1 n), b8 (kb2 n), b8 (kb3 n), b8 0, b8 0, b8 0, b8 0, b8 0, b8 0, b8 0, b8 0, b8 0, b8 0, b8 0, b8 0, AV.bool v, b8 192, b8 168, b8 0, b8 1, b8 0, b8 0, b8 0, b8 0, b8 0, b8 0, b8 0, b8 0, b8 0, b8 0, b8 0, b8 0, int u16 (kport n), int u16 80] 37 Md.own none, cells (bys S) 1 Md.own none]
noncomputable def hSegSumsT33 (v : Bool) (n a q w : Int) (d S : List UInt8) : AHeap := []
noncomputable def hSegSumsT34 (v : Bool) (n a q w : Int) (d S : List UInt8) : AHeap := [cells (bys d) 1 Md.far none, cells [b8 6, AV.bool v, b8 10, b8 (kb1 n), b8 (kb2 n), b8 (kb3 n), b8 0, b8 0, b8 0, b8 0, b8 0, b8 0, b8 0, b8 0, b8 0, b8 0, b8 0, b8 0, AV.bool v, b8 192, b8 168, b8 0, b8 1, b8 0, b8 0, b8 0, b8 0, b8 0, b8 0, b8 0, b8 0, b8 0, b8 0, b8 0, b8 0, int u16 (kport n), int u16 80] 37 Md.own none, cells (bys S) 1 Md.own none, cells [AV.bool v, b8 10, b8 (kb1 n), b8 (kb2 n), b8 (abits u8 (· ^^^ ·) (intV (some (b8 (kb3 n)))) (u8.wrap (1 * 2 ^ min (q % 8).toNat 8))), b8 0, b8 0, b8 0, b8 0, b8 0, b8 0, b8 0, b8 0, b8 0, b8 0, b8 0, b8 0] 17 Md.own none, ABlk.dead, cells (putCells (List.take (S.length * 1) (bys S)) (0 + (a % (((0 + S.length) : Nat) : Int)).toNat * 1) [b8 (abits u8 (· ^^^ ·) (intV (List.take (S.length * 1) (bys S))[0 + (a % (((0 + S.length) : Nat) : Int)).toNat * 1]?) (u8.wrap (1 * 2 ^ min (q % 8).toNat 8)))]) 1 Md.own none]
theorem nfSegSumsT3 {R : Type} (v : Bool) (n a q w : Int) (d S : List UInt8) (K : AV → Option R) :
 qrun Try.prog (tSS S) 100 4 [(23, .bool false), (34, .bool false), (49, .int .i64 3)] [] 7 [.int .i64 n, .bool v, .bool false, slB 0 d, .int .i64 a, .int .i64 q, .int .i64 w] [farB d] (fun v _ => K v) =
 (if decide ((d.length : Int) > 300) = false then
 (if cdec (OfR [AV.agg [b8 6, AV.bool v, b8 10, b8 (kb1 n), b8 (kb2 n), b8 (kb3 n), b8 0, b8 0, b8 0, b8 0, b8 0, b8 0, b8 0, b8 0, b8 0, b8 0, b8 0, b8 0, AV.bool v, b8 192, b8 168, b8 0, b8 1, b8 0, b8 0, b8 0, b8 0, b8 0, b8 0, b8 0, b8 0, b8 0, b8 0, b8 0, b8 0, int u16 (kport n), int u16 80], AV.sl (some (0, 0)) d.length 0 false, AV.bool false] (hSegSumsT30 v n a q w d S) (AV.sl (some (2, 0)) S.length 0 false) (hSegSumsT31 v n a q w d S)) = true then
 (if decide ((S.length : Int) < 8) = false then
 (if cdec (Says eGoodS [b8 (intV (some (b8 6))), AV.sl (some (2, 0)) S.length 0 false, AV.agg [AV.bool v, b8 10, b8 (kb1 n), b8 (kb2 n), b8 (kb3 n), b8 0, b8 0, b8 0, b8 0, b8 0, b8 0, b8 0, b8 0, b8 0, b8 0, b8 0, b8 0], AV.agg [AV.bool v, b8 192, b8 168, b8 0, b8 1, b8 0, b8 0, b8 0, b8 0, b8 0, b8 0, b8 0, b8 0, b8 0, b8 0, b8 0, b8 0]] (hSegSumsT32 v n a q w d S) (AV.bool true) (hSegSumsT33 v n a q w d S)) = true then
 (if i64 = i64 ∧ w % 4 = 3 then
 (if q % 8 < 0 then
 none
 else (if (b8 (intV (some (b8 (kb3 n))))).beq (b8 (intV (some (b8 (kb3 n))))) = true then
 (if 0 + S.length * 1 ≤ (bys S).length then
 (if (2 * (0 + S.length) + 200) * 1 ≤ 281474976710656 ∧ some 1 = some 1 ∧ 0 + S.length ≤ 70368744177664 then
 (if 0 = 0 ∧ 0 = 0 ∧ (0 < S.length ∨ 0 = 0) ∧ 1 = 1 ∧ (List.take (S.length * 1) (bys S)).all AV.isCell = true then
 (if decide (0 < (((0 + S.length) : Nat) : Int) ∧ (((0 + S.length) : Nat) : Int) < 4611686018427387904) = true then
 (if 0 ≤ a % (((0 + S.length) : Nat) : Int) ∧ a % (((0 + S.length) : Nat) : Int) < (((0 + S.length) : Nat) : Int) then
 (if isIntV u8 (List.take (S.length * 1) (bys S))[0 + (a % (((0 + S.length) : Nat) : Int)).toNat * 1]? = true then
 (if q % 8 < 0 then
 none
 else (if 0 ≤ a % (((0 + S.length) : Nat) : Int) ∧ a % (((0 + S.length) : Nat) : Int) < (((0 + S.length) : Nat) : Int) then
 (if 0 + (a % (((0 + S.length) : Nat) : Int)).toNat * 1 + [b8 (abits u8 (· ^^^ ·) (intV (List.take (S.length * 1) (bys S))[0 + (a % (((0 + S.length) : Nat) : Int)).toNat * 1]?) (u8.wrap (1 * 2 ^ min (q % 8).toNat 8)))].length ≤ (List.take (S.length * 1) (bys S)).length ∧ [b8 (abits u8 (· ^^^ ·) (intV (List.take (S.length * 1) (bys S))[0 + (a % (((0 + S.length) : Nat) : Int)).toNat * 1]?) (u8.wrap (1 * 2 ^ min (q % 8).toNat 8)))].all AV.isCell = true then
 (if isIntV u8 (List.take (S.length * 1) (bys S))[0 + (a % (((0 + S.length) : Nat) : Int)).toNat * 1]? = true then
 (if (b8 (intV (List.take (S.length * 1) (bys S))[0 + (a % (((0 + S.length) : Nat) : Int)).toNat * 1]?)).beq (b8 (intV (List.take (S.length * 1) (bys S))[0 + (a % (((0 + S.length) : Nat) : Int)).toNat * 1]?)) = true then
 (if cdec (Says eGoodS [b8 (intV (some (b8 6))), AV.sl (some (2, 0)) S.length 0 false, AV.agg [AV.bool v, b8 10, b8 (kb1 n), b8 (kb2 n), b8 (abits u8 (· ^^^ ·) (intV (some (b8 (kb3 n)))) (u8.wrap (1 * 2 ^ min (q % 8).toNat 8))), b8 0, b8 0, b8 0, b8 0, b8 0, b8 0, b8 0, b8 0, b8 0, b8 0, b8 0, b8 0], AV.agg [AV.bool v, b8 192, b8 168, b8 0, b8 1, b8 0, b8 0, b8 0, b8 0, b8 0, b8 0, b8 0, b8 0, b8 0, b8 0, b8 0, b8 0]] (hSegSumsT34 v n a q w d S) (AV.bool false) (hSegSumsT33 v n a q w d S)) = true then
 (if cdec (Says eGoodS [b8 (intV (some (b8 6))), AV.sl (some (5, 0)) (0 + S.length) 0 false, AV.agg [AV.bool v, b8 10, b8 (kb1 n), b8 (kb2 n), b8 (kb3 n), b8 0, b8 0, b8 0, b8 0, b8 0, b8 0, b8 0, b8 0, b8 0, b8 0, b8 0, b8 0], AV.agg [AV.bool v, b8 192, b8 168, b8 0, b8 1, b8 0, b8 0, b8 0, b8 0, b8 0, b8 0, b8 0, b8 0, b8 0, b8 0, b8 0, b8 0]] (hSegSumsT34 v n a q w d S) (AV.bool false) (hSegSumsT33 v n a q w d S)) = true then
 K (AV.bool true)
 else none) else none) else none) else none) else none) else none))
 else none) else none) else none) else none) else none) else none) else none))
 else none) else none) else none) else none) else none) := by
  kernel_rfl

noncomputable def hSegSumsA00 (v : Bool) (n a q w : Int) (d S : List UInt8) : AHeap := [cells (bys d) 1 Md.far none, cells [b8 17, AV.bool v, b8 10, b8 (kb1 n), b8 (kb2 n), b8 (kb3 n), b8 0, b8 0, b8 0, b8 0, b8 0, b8 0, b8 0, b8 0, b8 0, b8 0, b8 0, b8 0, AV.bool v, b8 192, b8 168, b8 0, b8 1, b8 0, b8 0, b8 0, b8 0, b8 0, b8 0, b8 0, b8 0, b8 0, b8 0, b8 0, b8 0, int u16 (kport n), int u16 80] 37 Md.own none]
noncomputable def hSegSumsA01 (v : Bool) (n a q w : Int) (d S : List UInt8) : AHeap := [cells (bys S) 1 Md.own none]
noncomputable def hSegSumsA02 (v : Bool) (n a q w : Int) (d S : List UInt8) : AHeap := [cells (bys d) 1 Md.far none, cells [b8 17, AV.bool v, b8 10, b8 (kb1 n), b8 (kb2 n), b8 (kb3 n), b8 0, b8 0, b8 0, b8 0, b8 0, b8 0, b8 0, b8 0, b8 0, b8 0, b8 0, b8 0, AV.bool v, b8 192, b8 168, b8 0, b8 1, b8 0, b8 0, b8 0, b8 0, b8 0, b8 0, b8 0, b8 0, b8 0, b8 0, b8 0, b8 0, int u16 (kport n), int u16 80] 37 Md.own none, cells (bys S) 1 Md.own none]
noncomputable def hSegSumsA03 (v : Bool) (n a q w : Int) (d S : List UInt8) : AHeap := []
noncomputable def hSegSumsA04 (v : Bool) (n a q w : Int) (d S : List UInt8) : AHeap := [cells (bys d) 1 Md.far none, cells [b8 17, AV.bool v, b8 10, b8 (kb1 n), b8 (kb2 n), b8 (kb3 n), b8 0, b8 0, b8 0, b8 0, b8 0, b8 0, b8 0, b8 0, b8 0, b8 0, b8 0, b8 0, AV.bool v, b8 192, b8 168, b8 0, b8 1, b8 0, b8 0, b8 0, b8 0, b8 0, b8 0, b8 0, b8 0, b8 0, b8 0, b8 0, b8 0, int u16 (kport n), int u16 80] 37 Md.own none, cells (bys S) 1 Md.own none, cells [AV.bool v, b8 (abits u8 (· ^^^ ·) (intV (some (b8 10))) (u8.wrap (1 * 2 ^ min (q % 8).toNat 8))), b8 (kb1 n), b8 (kb2 n), b8 (kb3 n), b8 0, b8 0, b8 0, b8 0, b8 0, b8 0, b8 0, b8 0, b8 0, b8 0, b8 0, b8 0] 17 Md.own none, ABlk.dead, cells (putCells (List.take (S.length * 1) (bys S)) (0 + (a % (((0 + S.length) : Nat) : Int)).toNat * 1) [b8 (abits u8 (· ^^^ ·) (intV (List.take (S.length * 1) (bys S))[0 + (a % (((0 + S.length) : Nat) : Int)).toNat * 1]?) (u8.wrap (1 * 2 ^ min (q % 8).toNat 8)))]) 1 Md.own none]
theorem nfSegSumsA0 {R : Type} (v : Bool) (n a q w : Int) (d S : List UInt8) (K : AV → Option R) :
 qrun Try.prog (tSS S) 100 4 [(23, .bool false), (34, .bool false), (49, .int .i64 0), (80, .bool false)] [] 7 [.int .i64 n, .bool v, .bool true, slB 0 d, .int .i64 a, .int .i64 q, .int .i64 w] [farB d] (fun v _ => K v) =
 (if decide ((d.length : Int) > 300) = false then
 (if cdec (OfR [AV.agg [b8 17, AV.bool v, b8 10, b8 (kb1 n), b8 (kb2 n), b8 (kb3 n), b8 0, b8 0, b8 0, b8 0, b8 0, b8 0, b8 0, b8 0, b8 0, b8 0, b8 0, b8 0, AV.bool v, b8 192, b8 168, b8 0, b8 1, b8 0, b8 0, b8 0, b8 0, b8 0, b8 0, b8 0, b8 0, b8 0, b8 0, b8 0, b8 0, int u16 (kport n), int u16 80], AV.sl (some (0, 0)) d.length 0 false, AV.bool false] (hSegSumsA00 v n a q w d S) (AV.sl (some (2, 0)) S.length 0 false) (hSegSumsA01 v n a q w d S)) = true then
 (if decide ((S.length : Int) < 8) = false then
 (if cdec (Says eGoodS [b8 (intV (some (b8 17))), AV.sl (some (2, 0)) S.length 0 false, AV.agg [AV.bool v, b8 10, b8 (kb1 n), b8 (kb2 n), b8 (kb3 n), b8 0, b8 0, b8 0, b8 0, b8 0, b8 0, b8 0, b8 0, b8 0, b8 0, b8 0, b8 0], AV.agg [AV.bool v, b8 192, b8 168, b8 0, b8 1, b8 0, b8 0, b8 0, b8 0, b8 0, b8 0, b8 0, b8 0, b8 0, b8 0, b8 0, b8 0]] (hSegSumsA02 v n a q w d S) (AV.bool true) (hSegSumsA03 v n a q w d S)) = true then
 (if i64 = i64 ∧ w % 4 = 0 then
 (if q % 8 < 0 then
 none
 else (if 0 + S.length * 1 ≤ (bys S).length then
 (if (2 * (0 + S.length) + 200) * 1 ≤ 281474976710656 ∧ some 1 = some 1 ∧ 0 + S.length ≤ 70368744177664 then
 (if 0 = 0 ∧ 0 = 0 ∧ (0 < S.length ∨ 0 = 0) ∧ 1 = 1 ∧ (List.take (S.length * 1) (bys S)).all AV.isCell = true then
 (if decide (0 < (((0 + S.length) : Nat) : Int) ∧ (((0 + S.length) : Nat) : Int) < 4611686018427387904) = true then
 (if 0 ≤ a % (((0 + S.length) : Nat) : Int) ∧ a % (((0 + S.length) : Nat) : Int) < (((0 + S.length) : Nat) : Int) then
 (if isIntV u8 (List.take (S.length * 1) (bys S))[0 + (a % (((0 + S.length) : Nat) : Int)).toNat * 1]? = true then
 (if q % 8 < 0 then
 none
 else (if 0 ≤ a % (((0 + S.length) : Nat) : Int) ∧ a % (((0 + S.length) : Nat) : Int) < (((0 + S.length) : Nat) : Int) then
 (if 0 + (a % (((0 + S.length) : Nat) : Int)).toNat * 1 + [b8 (abits u8 (· ^^^ ·) (intV (List.take (S.length * 1) (bys S))[0 + (a % (((0 + S.length) : Nat) : Int)).toNat * 1]?) (u8.wrap (1 * 2 ^ min (q % 8).toNat 8)))].length ≤ (List.take (S.length * 1) (bys S)).length ∧ [b8 (abits u8 (· ^^^ ·) (intV (List.take (S.length * 1) (bys S))[0 + (a % (((0 + S.length) : Nat) : Int)).toNat * 1]?) (u8.wrap (1 * 2 ^ min (q % 8).toNat 8)))].all AV.isCell = true then
 (if isIntV u8 (List.take (S.length * 1) (bys S))[0 + (a % (((0 + S.length) : Nat) : Int)).toNat * 1]? = true then
 (if (b8 (intV (List.take (S.length * 1) (bys S))[0 + (a % (((0 + S.length) : Nat) : Int)).toNat * 1]?)).beq (b8 (intV (List.take (S.length * 1) (bys S))[0 + (a % (((0 + S.length) : Nat) : Int)).toNat * 1]?)) = true then
 (if Int.ofNat 0 ≤ Int.ofNat 6 ∧ 6 < (((0 + S.length) : Nat) : Int) then
 (if isIntV u8 (putCells (List.take (S.length * 1) (bys S)) (0 + (a % (((0 + S.length) : Nat) : Int)).toNat * 1) [b8 (abits u8 (· ^^^ ·) (intV (List.take (S.length * 1) (bys S))[0 + (a % (((0 + S.length) : Nat) : Int)).toNat * 1]?) (u8.wrap (1 * 2 ^ min (q % 8).toNat 8)))])[6]? = true then
 (if (intV (putCells (List.take (S.length * 1) (bys S)) (0 + (a % (((0 + S.length) : Nat) : Int)).toNat * 1) [b8 (abits u8 (· ^^^ ·) (intV (List.take (S.length * 1) (bys S))[0 + (a % (((0 + S.length) : Nat) : Int)).toNat * 1]?) (u8.wrap (1 * 2 ^ min (q % 8).toNat 8)))])[6]? == 0) = false then
 (if cdec (Says eGoodS [b8 (intV (some (b8 17))), AV.sl (some (2, 0)) S.length 0 false, AV.agg [AV.bool v, b8 (abits u8 (· ^^^ ·) (intV (some (b8 10))) (u8.wrap (1 * 2 ^ min (q % 8).toNat 8))), b8 (kb1 n), b8 (kb2 n), b8 (kb3 n), b8 0, b8 0, b8 0, b8 0, b8 0, b8 0, b8 0, b8 0, b8 0, b8 0, b8 0, b8 0], AV.agg [AV.bool v, b8 192, b8 168, b8 0, b8 1, b8 0, b8 0, b8 0, b8 0, b8 0, b8 0, b8 0, b8 0, b8 0, b8 0, b8 0, b8 0]] (hSegSumsA04 v n a q w d S) (AV.bool false) (hSegSumsA03 v n a q w d S)) = true then
 (if cdec (Says eGoodS [b8 (intV (some (b8 17))), AV.sl (some (5, 0)) (0 + S.length) 0 false, AV.agg [AV.bool v, b8 10, b8 (kb1 n), b8 (kb2 n), b8 (kb3 n), b8 0, b8 0, b8 0, b8 0, b8 0, b8 0, b8 0, b8 0, b8 0, b8 0, b8 0, b8 0], AV.agg [AV.bool v, b8 192, b8 168, b8 0, b8 1, b8 0, b8 0, b8 0, b8 0, b8 0, b8 0, b8 0, b8 0, b8 0, b8 0, b8 0, b8 0]] (hSegSumsA04 v n a q w d S) (AV.bool false) (hSegSumsA03 v n a q w d S)) = true then
 K (AV.bool true)
 else none) else none) else none) else none) else none) else none) else none) else none) else none))
 else none) else none) else none) else none) else none) else none))
 else none) else none) else none) else none) else none) := by
  kernel_rfl

noncomputable def hSegSumsA10 (v : Bool) (n a q w : Int) (d S : List UInt8) : AHeap := [cells (bys d) 1 Md.far none, cells [b8 17, AV.bool v, b8 10, b8 (kb1 n), b8 (kb2 n), b8 (kb3 n), b8 0, b8 0, b8 0, b8 0, b8 0, b8 0, b8 0, b8 0, b8 0, b8 0, b8 0, b8 0, AV.bool v, b8 192, b8 168, b8 0, b8 1, b8 0, b8 0, b8 0, b8 0, b8 0, b8 0, b8 0, b8 0, b8 0, b8 0, b8 0, b8 0, int u16 (kport n), int u16 80] 37 Md.own none]
noncomputable def hSegSumsA11 (v : Bool) (n a q w : Int) (d S : List UInt8) : AHeap := [cells (bys S) 1 Md.own none]
noncomputable def hSegSumsA12 (v : Bool) (n a q w : Int) (d S : List UInt8) : AHeap := [cells (bys d) 1 Md.far none, cells [b8 17, AV.bool v, b8 10, b8 (kb1 n), b8 (kb2 n), b8 (kb3 n), b8 0, b8 0, b8 0, b8 0, b8 0, b8 0, b8 0, b8 0, b8 0, b8 0, b8 0, b8 0, AV.bool v, b8 192, b8 168, b8 0, b8 1, b8 0, b8 0, b8 0, b8 0, b8 0, b8 0, b8 0, b8 0, b8 0, b8 0, b8 0, b8 0, int u16 (kport n), int u16 80] 37 Md.own none, cells (bys S) 1 Md.own none]
noncomputable def hSegSumsA13 (v : Bool) (n a q w : Int) (d S : List UInt8) : AHeap := []
noncomputable def hSegSumsA14 (v : Bool) (n a q w : Int) (d S : List UInt8) : AHeap := [cells (bys d) 1 Md.far none, cells [b8 17, AV.bool v, b8 10, b8 (kb1 n), b8 (kb2 n), b8 (kb3 n), b8 0, b8 0, b8 0, b8 0, b8 0, b8 0, b8 0, b8 0, b8 0, b8 0, b8 0, b8 0, AV.bool v, b8 192, b8 168, b8 0, b8 1, b8 0, b8 0, b8 0, b8 0, b8 0, b8 0, b8 0, b8 0, b8 0, b8 0, b8 0, b8 0, int u16 (kport n), int u16 80] 37 Md.own none, cells (bys S) 1 Md.own none, cells [AV.bool v, b8 10, b8 (abits u8 (· ^^^ ·) (intV (some (b8 (kb1 n)))) (u8.wrap (1 * 2 ^ min (q % 8).toNat 8))), b8 (kb2 n), b8 (kb3 n), b8 0, b8 0, b8 0, b8 0, b8 0, b8 0, b8 0, b8 0, b8 0, b8 0, b8 0, b8 0] 17 Md.own none, ABlk.dead, cells (putCells (List.take (S.length * 1) (bys S)) (0 + (a % (((0 + S.length) : Nat) : Int)).toNat * 1) [b8 (abits u8 (· ^^^ ·) (intV (List.take (S.length * 1) (bys S))[0 + (a % (((0 + S.length) : Nat) : Int)).toNat * 1]?) (u8.wrap (1 * 2 ^ min (q % 8).toNat 8)))]) 1 Md.own none]
theorem nfSegSumsA1 {R : Type} (v : Bool) (n a q w : Int) (d S : List UInt8) (K : AV → Option R) :
 qrun Try.prog (tSS S) 100 4 [(23, .bool false), (34, .bool false), (49, .int .i64 1), (80, .bool false)] [] 7 [.int .i64 n, .bool v, .bool true, slB 0 d, .int .i64 a, .int .i64 q, .int .i64 w] [farB d] (fun v _ => K v) =
 (if decide ((d.length : Int) > 300) = false then
 (if cdec (OfR [AV.agg [b8 17, AV.bool v, b8 10, b8 (kb1 n), b8 (kb2 n), b8 (kb3 n), b8 0, b8 0, b8 0, b8 0, b8 0, b8 0, b8 0, b8 0, b8 0, b8 0, b8 0, b8 0, AV.bool v, b8 192, b8 168, b8 0, b8 1, b8 0, b8 0, b8 0, b8 0, b8 0, b8 0, b8 0, b8 0, b8 0, b8 0, b8 0, b8 0, int u16 (kport n), int u16 80], AV.sl (some (0, 0)) d.length 0 false, AV.bool false] (hSegSumsA10 v n a q w d S) (AV.sl (some (2, 0)) S.length 0 false) (hSegSumsA11 v n a q w d S)) = true then
 (if decide ((S.length : Int) < 8) = false then
 (if cdec (Says eGoodS [b8 (intV (some (b8 17))), AV.sl (some (2, 0)) S.length 0 false, AV.agg [AV.bool v, b8 10, b8 (kb1 n), b8 (kb2 n), b8 (kb3 n), b8 0, b8 0, b8 0, b8 0, b8 0, b8 0, b8 0, b8 0, b8 0, b8 0, b8 0, b8 0], AV.agg [AV.bool v, b8 192, b8 168, b8 0, b8 1, b8 0, b8 0, b8 0, b8 0, b8 0, b8 0, b8 0, b8 0, b8 0, b8 0, b8 0, b8 0]] (hSegSumsA12 v n a q w d S) (AV.bool true) (hSegSumsA13 v n a q w d S)) = true then
 (if i64 = i64 ∧ w % 4 = 1 then
 (if q % 8 < 0 then
 none
 else (if (b8 (intV (some (b8 (kb1 n))))).beq (b8 (intV (some (b8 (kb1 n))))) = true then
 (if 0 + S.length * 1 ≤ (bys S).length then
 (if (2 * (0 + S.length) + 200) * 1 ≤ 281474976710656 ∧ some 1 = some 1 ∧ 0 + S.length ≤ 70368744177664 then
 (if 0 = 0 ∧ 0 = 0 ∧ (0 < S.length ∨ 0 = 0) ∧ 1 = 1 ∧ (List.take (S.length * 1) (bys S)).all AV.isCell = true then
 (if decide (0 < (((0 + S.length) : Nat) : Int) ∧ (((0 + S.length) : Nat) : Int) < 4611686018427387904) = true then
 (if 0 ≤ a % (((0 + S.length) : Nat) : Int) ∧ a % (((0 + S.length) : Nat) : Int) < (((0 + S.length) : Nat) : Int) then
 (if isIntV u8 (List.take (S.length * 1) (bys S))[0 + (a % (((0 + S.length) : Nat) : Int)).toNat * 1]? = true then
 (if q % 8 < 0 then
 none
 else (if 0 ≤ a % (((0 + S.length) : Nat) : Int) ∧ a % (((0 + S.length) : Nat) : Int) < (((0 + S.length) : Nat) : Int) then
 (if 0 + (a % (((0 + S.length) : Nat) : Int)).toNat * 1 + [b8 (abits u8 (· ^^^ ·) (intV (List.take (S.length * 1) (bys S))[0 + (a % (((0 + S.length) : Nat) : Int)).toNat * 1]?) (u8.wrap (1 * 2 ^ min (q % 8).toNat 8)))].length ≤ (List.take (S.length * 1) (bys S)).length ∧ [b8 (abits u8 (· ^^^ ·) (intV (List.take (S.length * 1) (bys S))[0 + (a % (((0 + S.length) : Nat) : Int)).toNat * 1]?) (u8.wrap (1 * 2 ^ min (q % 8).toNat 8)))].all AV.isCell = true then
 (if isIntV u8 (List.take (S.length * 1) (bys S))[0 + (a % (((0 + S.length) : Nat) : Int)).toNat * 1]? = true then
 (if (b8 (intV (List.take (S.length * 1) (bys S))[0 + (a % (((0 + S.length) : Nat) : Int)).toNat * 1]?)).beq (b8 (intV (List.take (S.length * 1) (bys S))[0 + (a % (((0 + S.length) : Nat) : Int)).toNat * 1]?)) = true then
 (if Int.ofNat 0 ≤ Int.ofNat 6 ∧ 6 < (((0 + S.length) : Nat) : Int) then
 (if isIntV u8 (putCells (List.take (S.length * 1) (bys S)) (0 + (a % (((0 + S.length) : Nat) : Int)).toNat * 1) [b8 (abits u8 (· ^^^ ·) (intV (List.take (S.length * 1) (bys S))[0 + (a % (((0 + S.length) : Nat) : Int)).toNat * 1]?) (u8.wrap (1 * 2 ^ min (q % 8).toNat 8)))])[6]? = true then
 (if (intV (putCells (List.take (S.length * 1) (bys S)) (0 + (a % (((0 + S.length) : Nat) : Int)).toNat * 1) [b8 (abits u8 (· ^^^ ·) (intV (List.take (S.length * 1) (bys S))[0 + (a % (((0 + S.length) : Nat) : Int)).toNat * 1]?) (u8.wrap (1 * 2 ^ min (q % 8).toNat 8)))])[6]? == 0) = false then
 (if cdec (Says eGoodS [b8 (intV (some (b8 17))), AV.sl (some (2, 0)) S.length 0 false, AV.agg [AV.bool v, b8 10, b8 (abits u8 (· ^^^ ·) (intV (some (b8 (kb1 n)))) (u8.wrap (1 * 2 ^ min (q % 8).toNat 8))), b8 (kb2 n), b8 (kb3 n), b8 0, b8 0, b8 0, b8 0, b8 0, b8 0, b8 0, b8 0, b8 0, b8 0, b8 0, b8 0], AV.agg [AV.bool v, b8 192, b8 168, b8 0, b8 1, b8 0, b8 0, b8 0, b8 0, b8 0, b8 0, b8 0, b8 0, b8 0, b8 0, b8 0, b8 0]] (hSegSumsA14 v n a q w d S) (AV.bool false) (hSegSumsA13 v n a q w d S)) = true then
 (if cdec (Says eGoodS [b8 (intV (some (b8 17))), AV.sl (some (5, 0)) (0 + S.length) 0 false, AV.agg [AV.bool v, b8 10, b8 (kb1 n), b8 (kb2 n), b8 (kb3 n), b8 0, b8 0, b8 0, b8 0, b8 0, b8 0, b8 0, b8 0, b8 0, b8 0, b8 0, b8 0], AV.agg [AV.bool v, b8 192, b8 168, b8 0, b8 1, b8 0, b8 0, b8 0, b8 0, b8 0, b8 0, b8 0, b8 0, b8 0, b8 0, b8 0, b8 0]] (hSegSumsA14 v n a q w d S) (AV.bool false) (hSegSumsA13 v n a q w d S)) = true then
 K (AV.bool true)
 else none) else none) else none) else none) else none) else none) else none) else none) else none))
 else none) else none) else none) else none) else none) else none) else none))
 else none) else none) else none) else none) else none) := by
  kernel_rfl

noncomputable def hSegSumsA20 (v : Bool) (n a q w : Int) (d S : List UInt8) : AHeap := [cells (bys d) 1 Md.far none, cells [b8 17, AV.bool v, b8 10, b8 (kb1 n), b8 (kb2 n), b8 (kb3 n), b8 0, b8 0, b8 0, b8 0, b8 0, b8 0, b8 0, b8 0, b8 0, b8 0, b8 0, b8 0, AV.bool v, b8 192, b8 168, b8 0, b8 1, b8 0, b8 0, b8 0, b8 0, b8 0, b8 0, b8 0, b8 0, b8 0, b8 0, b8 0, b8 0, int u16 (kport n), int u16 80] 37 Md.own none]
noncomputable def hSegSumsA21 (v : Bool) (n a q w : Int) (d S : List UInt8) : AHeap := [cells (bys S) 1 Md.own none]
noncomputable def hSegSumsA22 (v : Bool) (n a q w : Int) (d S : List UInt8) : AHeap := [cells (bys d) 1 Md.far none, cells [b8 17, AV.bool v, b8 10, b8 (kb1 n), b8 (kb2 n), b8 (kb3 n), b8 0, b8 0, b8 0, b8 0, b8 0, b8 0, b8 0, b8 0, b8 0, b8 0, b8 0, b8 0, AV.bool v, b8 192, b8 168, b8 0, b8 1, b8 0, b8 0, b8 0, b8 0, b8 0, b8 0, b8 0, b8 0, b8 0, b8 0, b8 0, b8 0, int u16 (kport n), int u16 80] 37 Md.own none, cells (bys S) 1 Md.own none]
noncomputable def hSegSumsA23 (v : Bool) (n a q w : Int) (d S : List UInt8) : AHeap := []
noncomputable def hSegSumsA24 (v : Bool) (n a q w : Int) (d S : List UInt8) : AHeap := [cells (bys d) 1 Md.far none, cells [b8 17, AV.bool v, b8 10, b8 (kb1 n), b8 (kb2 n), b8 (kb3 n), b8 0, b8 0, b8 0, b8 0, b8 0, b8 0, b8 0, b8 0, b8 0, b8 0, b8 0, b8 0, AV.bool v, b8 192, b8 168, b8 0, b8 1, b8 0, b8 0, b8 0, b8 0, b8 0, b8 0, b8 0, b8 0, b8 0, b8 0, b8 0, b8 0, int u16 (kport n), int u16 80] 37 Md.own none, cells (bys S) 1 Md.own none, cells [AV.bool v, b8 10, b8 (kb1 n), b8 (abits u8 (· ^^^ ·) (intV (some (b8 (kb2 n)))) (u8.wrap (1 * 2 ^ min (q % 8).toNat 8))), b8 (kb3 n), b8 0, b8 0, b8 0, b8 0, b8 0, b8 0, b8 0, b8 0, b8 0, b8 0, b8 0, b8 0] 17 Md.own none, ABlk.dead, cells (putCells (List.take (S.length * 1) (bys S)) (0 + (a % (((0 + S.length) : Nat) : Int)).toNat * 1) [b8 (abits u8 (· ^^^ ·) (intV (List.take (S.length * 1) (bys S))[0 + (a % (((0 + S.length) : Nat) : Int)).toNat * 1]?) (u8.wrap (1 * 2 ^ min (q % 8).toNat 8)))]) 1 Md.own none]
theorem nfSegSumsA2 {R : Type} (v : Bool) (n a q w : Int) (d S : List UInt8) (K : AV → Option R) :
 qrun Try.prog (tSS S) 100 4 [(23, .bool false), (34, .bool false), (49, .int .i64 2), (80, .bool false)] [] 7 [.int .i64 n, .bool v, .bool true, slB 0 d, .int .i64 a, .int .i64 q, .int .i64 w] [farB d] (fun v _ => K v) =
 (if decide ((d.length : Int) > 300) = false then
 (if cdec (OfR [AV.agg [b8 17, AV.bool v, b8 10, b8 (kb1 n), b8 (kb2 n), b8 (kb3 n), b8 0, b8 0, b8 0, b8 0, b8 0, b8 0, b8 0, b8 0, b8 0, b8 0, b8 0, b8 0, AV.bool v, b8 192, b8 168, b8 0, b8 1, b8 0, b8 0, b8 0, b8 0, b8 0, b8 0, b8 0, b8 0, b8 0, b8 0, b8 0, b8 0, int u16 (kport n), int u16 80], AV.sl (some (0, 0)) d.length 0 false, AV.bool false] (hSegSumsA20 v n a q w d S) (AV.sl (some (2, 0)) S.length 0 false) (hSegSumsA21 v n a q w d S)) = true then
 (if decide ((S.length : Int) < 8) = false then
 (if cdec (Says eGoodS [b8 (intV (some (b8 17))), AV.sl (some (2, 0)) S.length 0 false, AV.agg [AV.bool v, b8 10, b8 (kb1 n), b8 (kb2 n), b8 (kb3 n), b8 0, b8 0, b8 0, b8 0, b8 0, b8 0, b8 0, b8 0, b8 0, b8 0, b8 0, b8 0], AV.agg [AV.bool v, b8 192, b8 168, b8 0, b8 1, b8 0, b8 0, b8 0, b8 0, b8 0, b8 0, b8 0, b8 0, b8 0, b8 0, b8 0, b8 0]] (hSegSumsA22 v n a q w d S) (AV.bool true) (hSegSumsA23 v n a q w d S)) = true then
 (if i64 = i64 ∧ w % 4 = 2 then
 (if q % 8 < 0 then
 none
 else (if (b8 (intV (some (b8 (kb2 n))))).beq (b8 (intV (some (b8 (kb2 n))))) = true then
 (if 0 + S.length * 1 ≤ (bys S).length then
 (if (2 * (0 + S.length) + 200) * 1 ≤ 281474976710656 ∧ some 1 = some 1 ∧ 0 + S.length ≤ 70368744177664 then
 (if 0 = 0 ∧ 0 = 0 ∧ (0 < S.length ∨ 0 = 0) ∧ 1 = 1 ∧ (List.take (S.length * 1) (bys S)).all AV.isCell = true then
 (if decide (0 < (((0 + S.length) : Nat) : Int) ∧ (((0 + S.length) : Nat) : Int) < 4611686018427387904) = true then
 (if 0 ≤ a % (((0 + S.length) : Nat) : Int) ∧ a % (((0 + S.length) : Nat) : Int) < (((0 + S.length) : Nat) : Int) then
 (if isIntV u8 (List.take (S.length * 1) (bys S))[0 + (a % (((0 + S.length) : Nat) : Int)).toNat * 1]? = true then
 (if q % 8 < 0 then
 none
 else (if 0 ≤ a % (((0 + S.length) : Nat) : Int) ∧ a % (((0 + S.length) : Nat) : Int) < (((0 + S.length) : Nat) : Int) then
 (if 0 + (a % (((0 + S.length) : Nat) : Int)).toNat * 1 + [b8 (abits u8 (· ^^^ ·) (intV (List.take (S.length * 1) (bys S))[0 + (a % (((0 + S.length) : Nat) : Int)).toNat * 1]?) (u8.wrap (1 * 2 ^ min (q % 8).toNat 8)))].length ≤ (List.take (S.length * 1) (bys S)).length ∧ [b8 (abits u8 (· ^^^ ·) (intV (List.take (S.length * 1) (bys S))[0 + (a % (((0 + S.length) : Nat) : Int)).toNat * 1]?) (u8.wrap (1 * 2 ^ min (q % 8).toNat 8)))].all AV.isCell = true then
 (if isIntV u8 (List.take (S.length * 1) (bys S))[0 + (a % (((0 + S.length) : Nat) : Int)).toNat * 1]? = true then
 (if (b8 (intV (List.take (S.length * 1) (bys S))[0 + (a % (((0 + S.length) : Nat) : Int)).toNat * 1]?)).beq (b8 (intV (List.take (S.length * 1) (bys S))[0 + (a % (((0 + S.length) : Nat) : Int)).toNat * 1]?)) = true then
 (if Int.ofNat 0 ≤ Int.ofNat 6 ∧ 6 < (((0 + S.length) : Nat) : Int) then
 (if isIntV u8 (putCells (List.take (S.length * 1) (bys S)) (0 + (a % (((0 + S.length) : Nat) : Int)).toNat * 1) [b8 (abits u8 (· ^^^ ·) (intV (List.take (S.length * 1) (bys S))[0 + (a % (((0 + S.length) : Nat) : Int)).toNat * 1]?) (u8.wrap (1 * 2 ^ min (q % 8).toNat 8)))])[6]? = true then
 (if (intV (putCells (List.take (S.length * 1) (bys S)) (0 + (a % (((0 + S.length) : Nat) : Int)).toNat * 1) [b8 (abits u8 (· ^^^ ·) (intV (List.take (S.length * 1) (bys S))[0 + (a % (((0 + S.length) : Nat) : Int)).toNat * 1]?) (u8.wrap (1 * 2 ^ min (q % 8).toNat 8)))])[6]? == 0) = false then
 (if cdec (Says eGoodS [b8 (intV (some (b8 17))), AV.sl (some (2, 0)) S.length 0 false, AV.agg [AV.bool v, b8 10, b8 (kb1 n), b8 (abits u8 (· ^^^ ·) (intV (some (b8 (kb2 n)))) (u8.wrap (1 * 2 ^ min (q % 8).toNat 8))), b8 (kb3 n), b8 0, b8 0, b8 0, b8 0, b8 0, b8 0, b8 0, b8 0, b8 0, b8 0, b8 0, b8 0], AV.agg [AV.bool v, b8 192, b8 168, b8 0, b8 1, b8 0, b8 0, b8 0, b8 0, b8 0, b8 0, b8 0, b8 0, b8 0, b8 0, b8 0, b8 0]] (hSegSumsA24 v n a q w d S) (AV.bool false) (hSegSumsA23 v n a q w d S)) = true then
 (if cdec (Says eGoodS [b8 (intV (some (b8 17))), AV.sl (some (5, 0)) (0 + S.length) 0 false, AV.agg [AV.bool v, b8 10, b8 (kb1 n), b8 (kb2 n), b8 (kb3 n), b8 0, b8 0, b8 0, b8 0, b8 0, b8 0, b8 0, b8 0, b8 0, b8 0, b8 0, b8 0], AV.agg [AV.bool v, b8 192, b8 168, b8 0, b8 1, b8 0, b8 0, b8 0, b8 0, b8 0, b8 0, b8 0, b8 0, b8 0, b8 0, b8 0, b8 0]] (hSegSumsA24 v n a q w d S) (AV.bool false) (hSegSumsA23 v n a q w d S)) = true then
 K (AV.bool true)
 else none) else none) else none) else none) else none) else none) else none) else none) else none))
 else none) else none) else none) else none) else none) else none) else none))
 else none) else none) else none) else none) else none) := by
  kernel_rfl

noncomputable def hSegSumsA30 (v : Bool) (n a q w : Int) (d S : List UInt8) : AHeap := [cells (bys d) 1 Md.far none, cells [b8 17, AV.bool v, b8 10, b8 (kb1 n), b8 (kb2 n), b8 (kb3 n), b8 0, b8 0, b8 0, b8 0, b8 0, b8 0, b8 0, b8 0, b8 0, b8 0, b8 0, b8 0, AV.bool v, b8 192, b8 168, b8 0, b8 1, b8 0, b8 0, b8 0, b8 0, b8 0, b8 0, b8 0, b8 0, b8 0, b8 0, b8 0, b8 0, int u16 (kport n), int u16 80] 37 Md.own none]
noncomputable def hSegSumsA31 (v : Bool) (n a q w : Int) (d S : List UInt8) : AHeap := [cells (bys S) 1 Md.own none]
noncomputable def hSegSumsA32 (v : Bool) (n a q w : Int) (d S : List UInt8) : AHeap := [cells (bys d) 1 Md.far none, cells [b8 17, AV.bool v, b8 10, b8 (kb1 n), b8 (kb2 n), b8 (kb3 n), b8 0, b8 0, b8 0, b8 0, b8 0, b8 0, b8 0, b8 0, b8 0, b8 0, b8 0, b8 0, AV.bool v, b8 192, b8 168, b8 0, b8 1, b8 0, b8 0, b8 0, b8 0, b8 0, b8 0, b8 0, b8 0, b8 0, b8 0, b8 0, b8 0, int u16 (kport n), int u16 80] 37 Md.own none, cells (bys S) 1 Md.own none]
noncomputable def hSegSumsA33 (v : Bool) (n a q w : Int) (d S : List UInt8) : AHeap := []
noncomputable def hSegSumsA34 (v : Bool) (n a q w : Int) (d S : List UInt8) : AHeap := [cells (bys d) 1 Md.far none, cells [b8 17, AV.bool v, b8 10, b8 (kb1 n), b8 (kb2 n), b8 (kb3 n), b8 0, b8 0, b8 0, b8 0, b8 0, b8 0, b8 0, b8 0, b8 0, b8 0, b8 0, b8 0, AV.bool v, b8 192, b8 168, b8 0, b8 1, b8 0, b8 0, b8 0, b8 0, b8 0, b8 0, b8 0, b8 0, b8 0, b8 0, b8 0, b8 0, int u16 (kport n), int u16 80] 37 Md.own none, cells (bys S) 1 Md.own none, cells [AV.bool v, b8 10, b8 (kb1 n), b8 (kb2 n), b8 (abits u8 (· ^^^ ·) (intV (some (b8 (kb3 n)))) (u8.wrap (1 * 2 ^ min (q % 8).toNat 8))), b8 0, b8 0, b8 0, b8 0, b8 0, b8 0, b8 0, b8 0, b8 0, b8 0, b8 0, b8 0] 17 Md.own none, ABlk.dead, cells (putCells (List.take (S.length * 1) (bys S)) (0 + (a % (((0 + S.length) : Nat) : Int)).toNat * 1) [b8 (abits u8 (· ^^^ ·) (intV (List.take (S.length * 1) (bys S))[0 + (a % (((0 + S.length) : Nat) : Int)).toNat * 1]?) (u8.wrap (1 * 2 ^ min (q % 8).toNat 8)))]) 1 Md.own none]
theorem nfSegSumsA3 {R : Type} (v : Bool) (n a q w : Int) (d S : List UInt8) (K : AV → Option R) :
 qrun Try.prog (tSS S) 100 4 [(23, .bool false), (34, .bool false), (49, .int .i64 3), (80, .bool false)] [] 7 [.int .i64 n, .bool v, .bool true, slB 0 d, .int .i64 a, .int .i64 q, .int .i64 w] [farB d] (fun v _ => K v) =
 (if decide ((d.length : Int) > 300) = false then
 (if cdec (OfR [AV.agg [b8 17, AV.bool v, b8 10, b8 (kb1 n), b8 (kb2 n), b8 (kb3 n), b8 0, b8 0, b8 0, b8 0, b8 0, b8 0, b8 0, b8 0, b8 0, b8 0, b8 0, b8 0, AV.bool v, b8 192, b8 168, b8 0, b8 1, b8 0, b8 0, b8 0, b8 0, b8 0, b8 0, b8 0, b8 0, b8 0, b8 0, b8 0, b8 0, int u16 (kport n), int u16 80], AV.sl (some (0, 0)) d.length 0 false, AV.bool false] (hSegSumsA30 v n a q w d S) (AV.sl (some (2, 0)) S.length 0 false) (hSegSumsA31 v n a q w d S)) = true then
 (if decide ((S.length : Int) < 8) = false then
 (if cdec (Says eGoodS [b8 (intV (some (b8 17))), AV.sl (some (2, 0)) S.length 0 false, AV.agg [AV.bool v, b8 10, b8 (kb1 n), b8 (kb2 n), b8 (kb3 n), b8 0, b8 0, b8 0, b8 0, b8 0, b8 0, b8 0, b8 0, b8 0, b8 0, b8 0, b8 0], AV.agg [AV.bool v, b8 192, b8 168, b8 0, b8 1, b8 0, b8 0, b8 0, b8 0, b8 0, b8 0, b8 0, b8 0, b8 0, b8 0, b8 0, b8 0]] (hSegSumsA32 v n a q w d S) (AV.bool true) (hSegSumsA33 v n a q w d S)) = true then
 (if i64 = i64 ∧ w % 4 = 3 then
 (if q % 8 < 0 then
 none
 else (if (b8 (intV (some (b8 (kb3 n))))).beq (b8 (intV (some (b8 (kb3 n))))) = true then
 (if 0 + S.length * 1 ≤ (bys S).length then
 (if (2 * (0 + S.length) + 200) * 1 ≤ 281474976710656 ∧ some 1 = some 1 ∧ 0 + S.length ≤ 70368744177664 then
 (if 0 = 0 ∧ 0 = 0 ∧ (0 < S.length ∨ 0 = 0) ∧ 1 = 1 ∧ (List.take (S.length * 1) (bys S)).all AV.isCell = true then
 (if decide (0 < (((0 + S.length) : Nat) : Int) ∧ (((0 + S.length) : Nat) : Int) < 4611686018427387904) = true then
 (if 0 ≤ a % (((0 + S.length) : Nat) : Int) ∧ a % (((0 + S.length) : Nat) : Int) < (((0 + S.length) : Nat) : Int) then
 (if isIntV u8 (List.take (S.length * 1) (bys S))[0 + (a % (((0 + S.length) : Nat) : Int)).toNat * 1]? = true then
 (if q % 8 < 0 then
 none
 else (if 0 ≤ a % (((0 + S.length) : Nat) : Int) ∧ a % (((0 + S.length) : Nat) : Int) < (((0 + S.length) : Nat) : Int) then
 (if 0 + (a % (((0 + S.length) : Nat) : Int)).toNat * 1 + [b8 (abits u8 (· ^^^ ·) (intV (List.take (S.length * 1) (bys S))[0 + (a % (((0 + S.length) : Nat) : Int)).toNat * 1]?) (u8.wrap (1 * 2 ^ min (q % 8).toNat 8)))].length ≤ (List.take (S.length * 1) (bys S)).length ∧ [b8 (abits u8 (· ^^^ ·) (intV (List.take (S.length * 1) (bys S))[0 + (a % (((0 + S.length) : Nat) : Int)).toNat * 1]?) (u8.wrap (1 * 2 ^ min (q % 8).toNat 8)))].all AV.isCell = true then
 (if isIntV u8 (List.take (S.length * 1) (bys S))[0 + (a % (((0 + S.length) : Nat) : Int)).toNat * 1]? = true then
 (if (b8 (intV (List.take (S.length * 1) (bys S))[0 + (a % (((0 + S.length) : Nat) : Int)).toNat * 1]?)).beq (b8 (intV (List.take (S.length * 1) (bys S))[0 + (a % (((0 + S.length) : Nat) : Int)).toNat * 1]?)) = true then
 (if Int.ofNat 0 ≤ Int.ofNat 6 ∧ 6 < (((0 + S.length) : Nat) : Int) then
 (if isIntV u8 (putCells (List.take (S.length * 1) (bys S)) (0 + (a % (((0 + S.length) : Nat) : Int)).toNat * 1) [b8 (abits u8 (· ^^^ ·) (intV (List.take (S.length * 1) (bys S))[0 + (a % (((0 + S.length) : Nat) : Int)).toNat * 1]?) (u8.wrap (1 * 2 ^ min (q % 8).toNat 8)))])[6]? = true then
 (if (intV (putCells (List.take (S.length * 1) (bys S)) (0 + (a % (((0 + S.length) : Nat) : Int)).toNat * 1) [b8 (abits u8 (· ^^^ ·) (intV (List.take (S.length * 1) (bys S))[0 + (a % (((0 + S.length) : Nat) : Int)).toNat * 1]?) (u8.wrap (1 * 2 ^ min (q % 8).toNat 8)))])[6]? == 0) = false then
 (if cdec (Says eGoodS [b8 (intV (some (b8 17))), AV.sl (some (2, 0)) S.length 0 false, AV.agg [AV.bool v, b8 10, b8 (kb1 n), b8 (kb2 n), b8 (abits u8 (· ^^^ ·) (intV (some (b8 (kb3 n)))) (u8.wrap (1 * 2 ^ min (q % 8).toNat 8))), b8 0, b8 0, b8 0, b8 0, b8 0, b8 0, b8 0, b8 0, b8 0, b8 0, b8 0, b8 0], AV.agg [AV.bool v, b8 192, b8 168, b8 0, b8 1, b8 0, b8 0, b8 0, b8 0, b8 0, b8 0, b8 0, b8 0, b8 0, b8 0, b8 0, b8 0]] (hSegSumsA34 v n a q w d S) (AV.bool false) (hSegSumsA33 v n a q w d S)) = true then
 (if cdec (Says eGoodS [b8 (intV (some (b8 17))), AV.sl (some (5, 0)) (0 + S.length) 0 false, AV.agg [AV.bool v, b8 10, b8 (kb1 n), b8 (kb2 n), b8 (kb3 n), b8 0, b8 0, b8 0, b8 0, b8 0, b8 0, b8 0, b8 0, b8 0, b8 0, b8 0, b8 0], AV.agg [AV.bool v, b8 192, b8 168, b8 0, b8 1, b8 0, b8 0, b8 0, b8 0, b8 0, b8 0, b8 0, b8 0, b8 0, b8 0, b8 0, b8 0]] (hSegSumsA34 v n a q w d S) (AV.bool false) (hSegSumsA33 v n a q w d S)) = true then
 K (AV.bool true)
 else none) else none) else none) else none) else none) else none) else none) else none) else none))
 else none) else none) else none) else none) else none) else none) else none))
 else none) else none) else none) else none) else none) := by
  kernel_rfl

noncomputable def hSegSumsB00 (v : Bool) (n a q w : Int) (d S : List UInt8) : AHeap := [cells (bys d) 1 Md.far none, cells [b8 17, AV.bool v, b8 10, b8 (kb1 n), b8 (kb2 n), b8 (kb3 n), b8 0, b8 0, b8 0, b8 0, b8 0, b8 0, b8 0, b8 0, b8 0, b8 0, b8 0, b8 0, AV.bool v, b8 192, b8 168, b8 0, b8 1, b8 0, b8 0, b8 0, b8 0, b8 0, b8 0, b8 0, b8 0, b8 0, b8 0, b8 0, b8 0, int u16 (kport n), int u16 80] 37 Md.own none]
noncomputable def hSegSumsB01 (v : Bool) (n a q w : Int) (d S : List UInt8) : AHeap := [cells (bys S) 1 Md.own none]
noncomputable def hSegSumsB02 (v : Bool) (n a q w : Int) (d S : List UInt8) : AHeap := [cells (bys d) 1 Md.far none, cells [b8 17, AV.bool v, b8 10, b8 (kb1 n), b8 (kb2 n), b8 (kb3 n), b8 0, b8 0, b8 0, b8 0, b8 0, b8 0, b8 0, b8 0, b8 0, b8 0, b8 0, b8 0, AV.bool v, b8 192, b8 168, b8 0, b8 1, b8 0, b8 0, b8 0, b8 0, b8 0, b8 0, b8 0, b8 0, b8 0, b8 0, b8 0, b8 0, int u16 (kport n), int u16 80] 37 Md.own none, cells (bys S) 1 Md.own none]
noncomputable def hSegSumsB03 (v : Bool) (n a q w : Int) (d S : List UInt8) : AHeap := []
noncomputable def hSegSumsB04 (v : Bool) (n a q w : Int) (d S : List UInt8) : AHeap := [cells (bys d) 1 Md.far none, cells [b8 17, AV.bool v, b8 10, b8 (kb1 n), b8 (kb2 n), b8 (kb3 n), b8 0, b8 0, b8 0, b8 0, b8 0, b8 0, b8 0, b8 0, b8 0, b8 0, b8 0, b8 0, AV.bool v, b8 192, b8 168, b8 0, b8 1, b8 0, b8 0, b8 0, b8 0, b8 0, b8 0, b8 0, b8 0, b8 0, b8 0, b8 0, b8 0, int u16 (kport n), int u16 80] 37 Md.own none, cells (bys S) 1 Md.own none, cells [AV.bool v, b8 (abits u8 (· ^^^ ·) (intV (some (b8 10))) (u8.wrap (1 * 2 ^ min (q % 8).toNat 8))), b8 (kb1 n), b8 (kb2 n), b8 (kb3 n), b8 0, b8 0, b8 0, b8 0, b8 0, b8 0, b8 0, b8 0, b8 0, b8 0, b8 0, b8 0] 17 Md.own none, ABlk.dead, cells (putCells (List.take (S.length * 1) (bys S)) (0 + (a % (((0 + S.length) : Nat) : Int)).toNat * 1) [b8 (abits u8 (· ^^^ ·) (intV (List.take (S.length * 1) (bys S))[0 + (a % (((0 + S.length) : Nat) : Int)).toNat * 1]?) (u8.wrap (1 * 2 ^ min (q % 8).toNat 8)))]) 1 Md.own none]
theorem nfSegSumsB0 {R : Type} (v : Bool) (n a q w : Int) (d S : List UInt8) (K : AV → Option R) :
 qrun Try.prog (tSS S) 100 4 [(23, .bool false), (34, .bool false), (49, .int .i64 0), (80, .bool true), (86, .bool false)] [] 7 [.int .i64 n, .bool v, .bool true, slB 0 d, .int .i64 a, .int .i64 q, .int .i64 w] [farB d] (fun v _ => K v) =
 (if decide ((d.length : Int) > 300) = false then
 (if cdec (OfR [AV.agg [b8 17, AV.bool v, b8 10, b8 (kb1 n), b8 (kb2 n), b8 (kb3 n), b8 0, b8 0, b8 0, b8 0, b8 0, b8 0, b8 0, b8 0, b8 0, b8 0, b8 0, b8 0, AV.bool v, b8 192, b8 168, b8 0, b8 1, b8 0, b8 0, b8 0, b8 0, b8 0, b8 0, b8 0, b8 0, b8 0, b8 0, b8 0, b8 0, int u16 (kport n), int u16 80], AV.sl (some (0, 0)) d.length 0 false, AV.bool false] (hSegSumsB00 v n a q w d S) (AV.sl (some (2, 0)) S.length 0 false) (hSegSumsB01 v n a q w d S)) = true then
 (if decide ((S.length : Int) < 8) = false then
 (if cdec (Says eGoodS [b8 (intV (some (b8 17))), AV.sl (some (2, 0)) S.length 0 false, AV.agg [AV.bool v, b8 10, b8 (kb1 n), b8 (kb2 n), b8 (kb3 n), b8 0, b8 0, b8 0, b8 0, b8 0, b8 0, b8 0, b8 0, b8 0, b8 0, b8 0, b8 0], AV.agg [AV.bool v, b8 192, b8 168, b8 0, b8 1, b8 0, b8 0, b8 0, b8 0, b8 0, b8 0, b8 0, b8 0, b8 0, b8 0, b8 0, b8 0]] (hSegSumsB02 v n a q w d S) (AV.bool true) (hSegSumsB03 v n a q w d S)) = true then
 (if i64 = i64 ∧ w % 4 = 0 then
 (if q % 8 < 0 then
 none
 else (if 0 + S.length * 1 ≤ (bys S).length then
 (if (2 * (0 + S.length) + 200) * 1 ≤ 281474976710656 ∧ some 1 = some 1 ∧ 0 + S.length ≤ 70368744177664 then
 (if 0 = 0 ∧ 0 = 0 ∧ (0 < S.length ∨ 0 = 0) ∧ 1 = 1 ∧ (List.take (S.length * 1) (bys S)).all AV.isCell = true then
 (if decide (0 < (((0 + S.length) : Nat) : Int) ∧ (((0 + S.length) : Nat) : Int) < 4611686018427387904) = true then
 (if 0 ≤ a % (((0 + S.length) : Nat) : Int) ∧ a % (((0 + S.length) : Nat) : Int) < (((0 + S.length) : Nat) : Int) then
 (if isIntV u8 (List.take (S.length * 1) (bys S))[0 + (a % (((0 + S.length) : Nat) : Int)).toNat * 1]? = true then
 (if q % 8 < 0 then
 none
 else (if 0 ≤ a % (((0 + S.length) : Nat) : Int) ∧ a % (((0 + S.length) : Nat) : Int) < (((0 + S.length) : Nat) : Int) then
 (if 0 + (a % (((0 + S.length) : Nat) : Int)).toNat * 1 + [b8 (abits u8 (· ^^^ ·) (intV (List.take (S.length * 1) (bys S))[0 + (a % (((0 + S.length) : Nat) : Int)).toNat * 1]?) (u8.wrap (1 * 2 ^ min (q % 8).toNat 8)))].length ≤ (List.take (S.length * 1) (bys S)).length ∧ [b8 (abits u8 (· ^^^ ·) (intV (List.take (S.length * 1) (bys S))[0 + (a % (((0 + S.length) : Nat) : Int)).toNat * 1]?) (u8.wrap (1 * 2 ^ min (q % 8).toNat 8)))].all AV.isCell = true then
 (if isIntV u8 (List.take (S.length * 1) (bys S))[0 + (a % (((0 + S.length) : Nat) : Int)).toNat * 1]? = true then
 (if (b8 (intV (List.take (S.length * 1) (bys S))[0 + (a % (((0 + S.length) : Nat) : Int)).toNat * 1]?)).beq (b8 (intV (List.take (S.length * 1) (bys S))[0 + (a % (((0 + S.length) : Nat) : Int)).toNat * 1]?)) = true then
 (if Int.ofNat 0 ≤ Int.ofNat 6 ∧ 6 < (((0 + S.length) : Nat) : Int) then
 (if isIntV u8 (putCells (List.take (S.length * 1) (bys S)) (0 + (a % (((0 + S.length) : Nat) : Int)).toNat * 1) [b8 (abits u8 (· ^^^ ·) (intV (List.take (S.length * 1) (bys S))[0 + (a % (((0 + S.length) : Nat) : Int)).toNat * 1]?) (u8.wrap (1 * 2 ^ min (q % 8).toNat 8)))])[6]? = true then
 (if (intV (putCells (List.take (S.length * 1) (bys S)) (0 + (a % (((0 + S.length) : Nat) : Int)).toNat * 1) [b8 (abits u8 (· ^^^ ·) (intV (List.take (S.length * 1) (bys S))[0 + (a % (((0 + S.length) : Nat) : Int)).toNat * 1]?) (u8.wrap (1 * 2 ^ min (q % 8).toNat 8)))])[6]? == 0) = true then
 (if Int.ofNat 0 ≤ Int.ofNat 7 ∧ 7 < (((0 + S.length) : Nat) : Int) then
 (if isIntV u8 (putCells (List.take (S.length * 1) (bys S)) (0 + (a % (((0 + S.length) : Nat) : Int)).toNat * 1) [b8 (abits u8 (· ^^^ ·) (intV (List.take (S.length * 1) (bys S))[0 + (a % (((0 + S.length) : Nat) : Int)).toNat * 1]?) (u8.wrap (1 * 2 ^ min (q % 8).toNat 8)))])[7]? = true then
 (if (intV (putCells (List.take (S.length * 1) (bys S)) (0 + (a % (((0 + S.length) : Nat) : Int)).toNat * 1) [b8 (abits u8 (· ^^^ ·) (intV (List.take (S.length * 1) (bys S))[0 + (a % (((0 + S.length) : Nat) : Int)).toNat * 1]?) (u8.wrap (1 * 2 ^ min (q % 8).toNat 8)))])[7]? == 0) = false then
 (if cdec (Says eGoodS [b8 (intV (some (b8 17))), AV.sl (some (2, 0)) S.length 0 false, AV.agg [AV.bool v, b8 (abits u8 (· ^^^ ·) (intV (some (b8 10))) (u8.wrap (1 * 2 ^ min (q % 8).toNat 8))), b8 (kb1 n), b8 (kb2 n), b8 (kb3 n), b8 0, b8 0, b8 0, b8 0, b8 0, b8 0, b8 0, b8 0, b8 0, b8 0, b8 0, b8 0], AV.agg [AV.bool v, b8 192, b8 168, b8 0, b8 1, b8 0, b8 0, b8 0, b8 0, b8 0, b8 0, b8 0, b8 0, b8 0, b8 0, b8 0, b8 0]] (hSegSumsB04 v n a q w d S) (AV.bool false) (hSegSumsB03 v n a q w d S)) = true then
 (if cdec (Says eGoodS [b8 (intV (some (b8 17))), AV.sl (some (5, 0)) (0 + S.length) 0 false, AV.agg [AV.bool v, b8 10, b8 (kb1 n), b8 (kb2 n), b8 (kb3 n), b8 0, b8 0, b8 0, b8 0, b8 0, b8 0, b8 0, b8 0, b8 0, b8 0, b8 0, b8 0], AV.agg [AV.bool v, b8 192, b8 168, b8 0, b8 1, b8 0, b8 0, b8 0, b8 0, b8 0, b8 0, b8 0, b8 0, b8 0, b8 0, b8 0, b8 0]] (hSegSumsB04 v n a q w d S) (AV.bool false) (hSegSumsB03 v n a q w d S)) = true then
 K (AV.bool true)
 else none) else none) else none) else none) else none) else none) else none) else none) else none) else none) else none) else none))
 else none) else none) else none) else none) else none) else none))
 else none) else none) else none) else none) else none) := by
  kernel_rfl

noncomputable def hSegSumsB10 (v : Bool) (n a q w : Int) (d S : List UInt8) : AHeap := [cells (bys d) 1 Md.far none, cells [b8 17, AV.bool v, b8 10, b8 (kb1 n), b8 (kb2 n), b8 (kb3 n), b8 0, b8 0, b8 0, b8 0, b8 0, b8 0, b8 0, b8 0, b8 0, b8 0, b8 0, b8 0, AV.bool v, b8 192, b8 168, b8 0, b8 1, b8 0, b8 0, b8 0, b8 0, b8 0, b8 0, b8 0, b8 0, b8 0, b8 0, b8 0, b8 0, int u16 (kport n), int u16 80] 37 Md.own none]
noncomputable def hSegSumsB11 (v : Bool) (n a q w : Int) (d S : List UInt8) : AHeap := [cells (bys S) 1 Md.own none]
noncomputable def hSegSumsB12 (v : Bool) (n a q w : Int) (d S : List UInt8) : AHeap := [cells (bys d) 1 Md.far none, cells [b8 17, AV.bool v, b8 10, b8 (kb1 n), b8 (kb2 n), b8 (kb3 n), b8 0, b8 0, b8 0, b8 0, b8 0, b8 0, b8 0, b8 0, b8 0, b8 0, b8 0, b8 0, AV.bool v, b8 192, b8 168, b8 0, b8 1, b8 0, b8 0, b8 0, b8 0, b8 0, b8 0, b8 0, b8 0, b8 0, b8 0, b8 0, b8 0, int u16 (kport n), int u16 80] 37 Md.own none, cells (bys S) 1 Md.own none]
noncomputable def hSegSumsB13 (v : Bool) (n a q w : Int) (d S : List UInt8) : AHeap := []
noncomputable def hSegSumsB14 (v : Bool) (n a q w : Int) (d S : List UInt8) : AHeap := [cells (bys d) 1 Md.far none, cells [b8 17, AV.bool v, b8 10, b8 (kb1 n), b8 (kb2 n), b8 (kb3 n), b8 0, b8 0, b8 0, b8 0, b8 0, b8 0, b8 0, b8 0, b8 0, b8 0, b8 0, b8 0, AV.bool v, b8 192, b8 168, b8 0, b8 1, b8 0, b8 0, b8 0, b8 0, b8 0, b8 0, b8 0, b8 0, b8 0, b8 0, b8 0, b8 0, int u16 (kport n), int u16 80] 37 Md.own none, cells (bys S) 1 Md.own none, cells [AV.bool v, b8 10, b8 (abits u8 (· ^^^ ·) (intV (some (b8 (kb1 n)))) (u8.wrap (1 * 2 ^ min (q % 8).toNat 8))), b8 (kb2 n), b8 (kb3 n), b8 0, b8 0, b8 0, b8 0, b8 0, b8 0, b8 0, b8 0, b8 0, b8 0, b8 0, b8 0] 17 Md.own none, ABlk.dead, cells (putCells (List.take (S.length * 1) (bys S)) (0 + (a % (((0 + S.length) : Nat) : Int)).toNat * 1) [b8 (abits u8 (· ^^^ ·) (intV (List.take (S.length * 1) (bys S))[0 + (a % (((0 + S.length) : Nat) : Int)).toNat * 1]?) (u8.wrap (1 * 2 ^ min (q % 8).toNat 8)))]) 1 Md.own none]
theorem nfSegSumsB1 {R : Type} (v : Bool) (n a q w : Int) (d S : List UInt8) (K : AV → Option R) :
 qrun Try.prog (tSS S) 100 4 [(23, .bool false), (34, .bool false), (49, .int .i64 1), (80, .bool true), (86, .bool false)] [] 7 [.int .i64 n, .bool v, .bool true, slB 0 d, .int .i64 a, .int .i64 q, .int .i64 w] [farB d] (fun v _ => K v) =
 (if decide ((d.length : Int) > 300) = false then
 (if cdec (OfR [AV.agg [b8 17, AV.bool v, b8 10, b8 (kb1 n), b8 (kb2 n), b8 (kb3 n), b8 0, b8 0, b8 0, b8 0, b8 0, b8 0, b8 0, b8 0, b8 0, b8 0, b8 0, b8 0, AV.bool v, b8 192, b8 168, b8 0, b8 1, b8 0, b8 0, b8 0, b8 0, b8 0, b8 0, b8 0, b8 0, b8 0, b8 0, b8 0, b8 0, int u16 (kport n), int u16 80], AV.sl (some (0, 0)) d.length 0 false, AV.bool false] (hSegSumsB10 v n a q w d S) (AV.sl (some (2, 0)) S.length 0 false) (hSegSumsB11 v n a q w d S)) = true then
 (if decide ((S.length : Int) < 8) = false then
 (if cdec (Says eGoodS [b8 (intV (some (b8 17))), AV.sl (some (2, 0)) S.length 0 false, AV.agg [AV.bool v, b8 10, b8 (kb1 n), b8 (kb2 n), b8 (kb3 n), b8 0, b8 0, b8 0, b8 0, b8 0, b8 0, b8 0, b8 0, b8 0, b8 0, b8 0, b8 0], AV.agg [AV.bool v, b8 192, b8 168, b8 0, b8 1, b8 0, b8 0, b8 0, b8 0, b8 0, b8 0, b8 0, b8 0, b8 0, b8 0, b8 0, b8 0]] (hSegSumsB12 v n a q w d S) (AV.bool true) (hSegSumsB13 v n a q w d S)) = true then
 (if i64 = i64 ∧ w % 4 = 1 then
 (if q % 8 < 0 then
 none
 else (if (b8 (intV (some (b8 (kb1 n))))).beq (b8 (intV (some (b8 (kb1 n))))) = true then
 (if 0 + S.length * 1 ≤ (bys S).length then
 (if (2 * (0 + S.length) + 200) * 1 ≤ 281474976710656 ∧ some 1 = some 1 ∧ 0 + S.length ≤ 70368744177664 then
 (if 0 = 0 ∧ 0 = 0 ∧ (0 < S.length ∨ 0 = 0) ∧ 1 = 1 ∧ (List.take (S.length * 1) (bys S)).all AV.isCell = true then
 (if decide (0 < (((0 + S.length) : Nat) : Int) ∧ (((0 + S.length) : Nat) : Int) < 4611686018427387904) = true then
 (if 0 ≤ a % (((0 + S.length) : Nat) : Int) ∧ a % (((0 + S.length) : Nat) : Int) < (((0 + S.length) : Nat) : Int) then
 (if isIntV u8 (List.take (S.length * 1) (bys S))[0 + (a % (((0 + S.length) : Nat) : Int)).toNat * 1]? = true then
 (if q % 8 < 0 then
 none
 else (if 0 ≤ a % (((0 + S.length) : Nat) : Int) ∧ a % (((0 + S.length) : Nat) : Int) < (((0 + S.length) : Nat) : Int) then
 (if 0 + (a % (((0 + S.length) : Nat) : Int)).toNat * 1 + [b8 (abits u8 (· ^^^ ·) (intV (List.take (S.length * 1) (bys S))[0 + (a % (((0 + S.length) : Nat) : Int)).toNat * 1]?) (u8.wrap (1 * 2 ^ min (q % 8).toNat 8)))].length ≤ (List.take (S.length * 1) (bys S)).length ∧ [b8 (abits u8 (· ^^^ ·) (intV (List.take (S.length * 1) (bys S))[0 + (a % (((0 + S.length) : Nat) : Int)).toNat * 1]?) (u8.wrap (1 * 2 ^ min (q % 8).toNat 8)))].all AV.isCell = true then
 (if isIntV u8 (List.take (S.length * 1) (bys S))[0 + (a % (((0 + S.length) : Nat) : Int)).toNat * 1]? = true then
 (if (b8 (intV (List.take (S.length * 1) (bys S))[0 + (a % (((0 + S.length) : Nat) : Int)).toNat * 1]?)).beq (b8 (intV (List.take (S.length * 1) (bys S))[0 + (a % (((0 + S.length) : Nat) : Int)).toNat * 1]?)) = true then
 (if Int.ofNat 0 ≤ Int.ofNat 6 ∧ 6 < (((0 + S.length) : Nat) : Int) then
 (if isIntV u8 (putCells (List.take (S.length * 1) (bys S)) (0 + (a % (((0 + S.length) : Nat) : Int)).toNat * 1) [b8 (abits u8 (· ^^^ ·) (intV (List.take (S.length * 1) (bys S))[0 + (a % (((0 + S.length) : Nat) : Int)).toNat * 1]?) (u8.wrap (1 * 2 ^ min (q % 8).toNat 8)))])[6]? = true then
 (if (intV (putCells (List.take (S.length * 1) (bys S)) (0 + (a % (((0 + S.length) : Nat) : Int)).toNat * 1) [b8 (abits u8 (· ^^^ ·) (intV (List.take (S.length * 1) (bys S))[0 + (a % (((0 + S.length) : Nat) : Int)).toNat * 1]?) (u8.wrap (1 * 2 ^ min (q % 8).toNat 8)))])[6]? == 0) = true then
 (if Int.ofNat 0 ≤ Int.ofNat 7 ∧ 7 < (((0 + S.length) : Nat) : Int) then
 (if isIntV u8 (putCells (List.take (S.length * 1) (bys S)) (0 + (a % (((0 + S.length) : Nat) : Int)).toNat * 1) [b8 (abits u8 (· ^^^ ·) (intV (List.take (S.length * 1) (bys S))[0 + (a % (((0 + S.length) : Nat) : Int)).toNat * 1]?) (u8.wrap (1 * 2 ^ min (q % 8).toNat 8)))])[7]? = true then
 (if (intV (putCells (List.take (S.length * 1) (bys S)) (0 + (a % (((0 + S.length) : Nat) : Int)).toNat * 1) [b8 (abits u8 (· ^^^ ·) (intV (List.take (S.length * 1) (bys S))[0 + (a % (((0 + S.length) : Nat) : Int)).toNat * 1]?) (u8.wrap (1 * 2 ^ min (q % 8).toNat 8)))])[7]? == 0) = false then
 (if cdec (Says eGoodS [b8 (intV (some (b8 17))), AV.sl (some (2, 0)) S.length 0 false, AV.agg [AV.bool v, b8 10, b8 (abits u8 (· ^^^ ·) (intV (some (b8 (kb1 n)))) (u8.wrap (1 * 2 ^ min (q % 8).toNat 8))), b8 (kb2 n), b8 (kb3 n), b8 0, b8 0, b8 0, b8 0, b8 0, b8 0, b8 0, b8 0, b8 0, b8 0, b8 0, b8 0], AV.agg [AV.bool v, b8 192, b8 168, b8 0, b8 1, b8 0, b8 0, b8 0, b8 0, b8 0, b8 0, b8 0, b8 0, b8 0, b8 0, b8 0, b8 0]] (hSegSumsB14 v n a q w d S) (AV.bool false) (hSegSumsB13 v n a q w d S)) = true then
 (if cdec (Says eGoodS [b8 (intV (some (b8 17))), AV.sl (some (5, 0)) (0 + S.length) 0 false, AV.agg [AV.bool v, b8 10, b8 (kb1 n), b8 (kb2 n), b8 (kb3 n), b8 0, b8 0, b8 0, b8 0, b8 0, b8 0, b8 0, b8 0, b8 0, b8 0, b8 0, b8 0], AV.agg [AV.bool v, b8 192, b8 168, b8 0, b8 1, b8 0, b8 0, b8 0, b8 0, b8 0, b8 0, b8 0, b8 0, b8 0, b8 0, b8 0, b8 0]] (hSegSumsB14 v n a q w d S) (AV.bool false) (hSegSumsB13 v n a q w d S)) = true then
 K (AV.bool true)
 else none) else none) else none) else none) else none) else none) else none) else none) else none) else none) else none) else none))
 else none) else none) else none) else none) else none) else none) else none))
 else none) else none) else none) else none) else none) := by
  kernel_rfl

noncomputable def hSegSumsB20 (v : Bool) (n a q w : Int) (d S : List UInt8) : AHeap := [cells (bys d) 1 Md.far none, cells [b8 17, AV.bool v, b8 10, b8 (kb1 n), b8 (kb2 n), b8 (kb3 n), b8 0, b8 0, b8 0, b8 0, b8 0, b8 0, b8 0, b8 0, b8 0, b8 0, b8 0, b8 0, AV.bool v, b8 192, b8 168, b8 0, b8 1, b8 0, b8 0, b8 0, b8 0, b8 0, b8 0, b8 0, b8 0, b8 0, b8 0, b8 0, b8 0, int u16 (kport n), int u16 80] 37 Md.own none]
noncomputable def hSegSumsB21 (v : Bool) (n a q w : Int) (d S : List UInt8) : AHeap := [cells (bys S) 1 Md.own none]
noncomputable def hSegSumsB22 (v : Bool) (n a q w : Int) (d S : List UInt8) : AHeap := [cells (bys d) 1 Md.far none, cells [b8 17, AV.bool v, b8 10, b8 (kb1 n), b8 (kb2 n), b8 (kb3 n), b8 0, b8 0, b8 0, b8 0, b8 0, b8 0, b8 0, b8 0, b8 0, b8 0, b8 0, b8 0, AV.bool v, b8 192, b8 168, b8 0, b8 1, b8 0, b8 0, b8 0, b8 0, b8 0, b8 0, b8 0, b8 0, b8 0, b8 0, b8 0, b8 0, int u16 (kport n), int u16 80] 37 Md.own none, cells (bys S) 1 Md.own none]
noncomputable def hSegSumsB23 (v : Bool) (n a q w : Int) (d S : List UInt8) : AHeap := []
noncomputable def hSegSumsB24 (v : Bool) (n a q w : Int) (d S : List UInt8) : AHeap := [cells (bys d) 1 Md.far none, cells [b8 17, AV.bool v, b8 10, b8 (kb1 n), b8 (kb2 n), b8 (kb3 n), b8 0, b8 0, b8 0, b8 0, b8 0, b8 0, b8 0, b8 0, b8 0, b8 0, b8 0, b8 0, AV.bool v, b8 192, b8 168, b8 0, b8 1, b8 0, b8 0, b8 0, b8 0, b8 0, b8 0, b8 0, b8 0, b8 0, b8 0, b8 0, b8 0, int u16 (kport n), int u16 80] 37 Md.own none, cells (bys S) 1 Md.own none, cells [AV.bool v, b8 10, b8 (kb1 n), b8 (abits u8 (· ^^^ ·) (intV (some (b8 (kb2 n)))) (u8.wrap (1 * 2 ^ min (q % 8).toNat 8))), b8 (kb3 n), b8 0, b8 0, b8 0, b8 0, b8 0, b8 0, b8 0, b8 0, b8 0, b8 0, b8 0, b8 0] 17 Md.own none, ABlk.dead, cells (putCells (List.take (S.length * 1) (bys S)) (0 + (a % (((0 + S.length) : Nat) : Int)).toNat * 1) [b8 (abits u8 (· ^^^ ·) (intV (List.take (S.length * 1) (bys S))[0 + (a % (((0 + S.length) : Nat) : Int)).toNat * 1]?) (u8.wrap (1 * 2 ^ min (q % 8).toNat 8)))]) 1 Md.own none]
theorem nfSegSumsB2 {R : Type} (v : Bool) (n a q w : Int) (d S : List UInt8) (K : AV → Option R) :
 qrun Try.prog (tSS S) 100 4 [(23, .bool false), (34, .bool false), (49, .int .i64 2), (80, .bool true), (86, .bool false)] [] 7 [.int .i64 n, .bool v, .bool true, slB 0 d, .int .i64 a, .int .i64 q, .int .i64 w] [farB d] (fun v _ => K v) =
 (if decide ((d.length : Int) > 300) = false then
 (if cdec (OfR [AV.agg [b8 17, AV.bool v, b8 10, b8 (kb1 n), b8 (kb2 n), b8 (kb3 n), b8 0, b8 0, b8 0, b8 0, b8 0, b8 0, b8 0, b8 0, b8 0, b8 0, b8 0, b8 0, AV.bool v, b8 192, b8 168, b8 0, b8 1, b8 0, b8 0, b8 0, b8 0, b8 0, b8 0, b8 0, b8 0, b8 0, b8 0, b8 0, b8 0, int u16 (kport n), int u16 80], AV.sl (some (0, 0)) d.length 0 false, AV.bool false] (hSegSumsB20 v n a q w d S) (AV.sl (some (2, 0)) S.length 0 false) (hSegSumsB21 v n a q w d S)) = true then
 (if decide ((S.length : Int) < 8) = false then
 (if cdec (Says eGoodS [b8 (intV (some (b8 17))), AV.sl (some (2, 0)) S.length 0 false, AV.agg [AV.bool v, b8 10, b8 (kb1 n), b8 (kb2 n), b8 (kb3 n), b8 0, b8 0, b8 0, b8 0, b8 0, b8 0, b8 0, b8 0, b8 0, b8 0, b8 0, b8 0], AV.agg [AV.bool v, b8 192, b8 168, b8 0, b8 1, b8 0, b8 0, b8 0, b8 0, b8 0, b8 0, b8 0, b8 0, b8 0, b8 0, b8 0, b8 0]] (hSegSumsB22 v n a q w d S) (AV.bool true) (hSegSumsB23 v n a q w d S)) = true then
 (if i64 = i64 ∧ w % 4 = 2 then
 (if q % 8 < 0 then
 none
 else (if (b8 (intV (some (b8 (kb2 n))))).beq (b8 (intV (some (b8 (kb2 n))))) = true then
 (if 0 + S.length * 1 ≤ (bys S).length then
 (if (2 * (0 + S.length) + 200) * 1 ≤ 281474976710656 ∧ some 1 = some 1 ∧ 0 + S.length ≤ 70368744177664 then
 (if 0 = 0 ∧ 0 = 0 ∧ (0 < S.length ∨ 0 = 0) ∧ 1 = 1 ∧ (List.take (S.length * 1) (bys S)).all AV.isCell = true then
 (if decide (0 < (((0 + S.length) : Nat) : Int) ∧ (((0 + S.length) : Nat) : Int) < 4611686018427387904) = true then
 (if 0 ≤ a % (((0 + S.length) : Nat) : Int) ∧ a % (((0 + S.length) : Nat) : Int) < (((0 + S.length) : Nat) : Int) then
 (if isIntV u8 (List.take (S.length * 1) (bys S))[0 + (a % (((0 + S.length) : Nat) : Int)).toNat * 1]? = true then
 (if q % 8 < 0 then
 none
 else (if 0 ≤ a % (((0 + S.length) : Nat) : Int) ∧ a % (((0 + S.length) : Nat) : Int) < (((0 + S.length) : Nat) : Int) then
 (if 0 + (a % (((0 + S.length) : Nat) : Int)).toNat * 1 + [b8 (abits u8 (· ^^^ ·) (intV (List.take (S.length * 1) (bys S))[0 + (a % (((0 + S.length) : Nat) : Int)).toNat * 1]?) (u8.wrap (1 * 2 ^ min (q % 8).toNat 8)))].length ≤ (List.take (S.length * 1) (bys S)).length ∧ [b8 (abits u8 (· ^^^ ·) (intV (List.take (S.length * 1) (bys S))[0 + (a % (((0 + S.length) : Nat) : Int)).toNat * 1]?) (u8.wrap (1 * 2 ^ min (q % 8).toNat 8)))].all AV.isCell = true then
 (if isIntV u8 (List.take (S.length * 1) (bys S))[0 + (a % (((0 + S.length) : Nat) : Int)).toNat * 1]? = true then
 (if (b8 (intV (List.take (S.length * 1) (bys S))[0 + (a % (((0 + S.length) : Nat) : Int)).toNat * 1]?)).beq (b8 (intV (List.take (S.length * 1) (bys S))[0 + (a % (((0 + S.length) : Nat) : Int)).toNat * 1]?)) = true then
 (if Int.ofNat 0 ≤ Int.ofNat 6 ∧ 6 < (((0 + S.length) : Nat) : Int) then
 (if isIntV u8 (putCells (List.take (S.length * 1) (bys S)) (0 + (a % (((0 + S.length) : Nat) : Int)).toNat * 1) [b8 (abits u8 (· ^^^ ·) (intV (List.take (S.length * 1) (bys S))[0 + (a % (((0 + S.length) : Nat) : Int)).toNat * 1]?) (u8.wrap (1 * 2 ^ min (q % 8).toNat 8)))])[6]? = true then
 (if (intV (putCells (List.take (S.length * 1) (bys S)) (0 + (a % (((0 + S.length) : Nat) : Int)).toNat * 1) [b8 (abits u8 (· ^^^ ·) (intV (List.take (S.length * 1) (bys S))[0 + (a % (((0 + S.length) : Nat) : Int)).toNat * 1]?) (u8.wrap (1 * 2 ^ min (q % 8).toNat 8)))])[6]? == 0) = true then
 (if Int.ofNat 0 ≤ Int.ofNat 7 ∧ 7 < (((0 + S.length) : Nat) : Int) then
 (if isIntV u8 (putCells (List.take (S.length * 1) (bys S)) (0 + (a % (((0 + S.length) : Nat) : Int)).toNat * 1) [b8 (abits u8 (· ^^^ ·) (intV (List.take (S.length * 1) (bys S))[0 + (a % (((0 + S.length) : Nat) : Int)).toNat * 1]?) (u8.wrap (1 * 2 ^ min (q % 8).toNat 8)))])[7]? = true then
 (if (intV (putCells (List.take (S.length * 1) (bys S)) (0 + (a % (((0 + S.length) : Nat) : Int)).toNat * 1) [b8 (abits u8 (· ^^^ ·) (intV (List.take (S.length * 1) (bys S))[0 + (a % (((0 + S.length) : Nat) : Int)).toNat * 1]?) (u8.wrap (1 * 2 ^ min (q % 8).toNat 8)))])[7]? == 0) = false then
 (if cdec (Says eGoodS [b8 (intV (some (b8 17))), AV.sl (some (2, 0)) S.length 0 false, AV.agg [AV.bool v, b8 10, b8 (kb1 n), b8 (abits u8 (· ^^^ ·) (intV (some (b8 (kb2 n)))) (u8.wrap (1 * 2 ^ min (q % 8).toNat 8))), b8 (kb3 n), b8 0, b8 0, b8 0, b8 0, b8 0, b8 0, b8 0, b8 0, b8 0, b8 0, b8 0, b8 0], AV.agg [AV.bool v, b8 192, b8 168, b8 0, b8 1, b8 0, b8 0, b8 0, b8 0, b8 0, b8 0, b8 0, b8 0, b8 0, b8 0, b8 0, b8 0]] (hSegSumsB24 v n a q w d S) (AV.bool false) (hSegSumsB23 v n a q w d S)) = true then
 (if cdec (Says eGoodS [b8 (intV (some (b8 17))), AV.sl (some (5, 0)) (0 + S.length) 0 false, AV.agg [AV.bool v, b8 10, b8 (kb1 n), b8 (kb2 n), b8 (kb3 n), b8 0, b8 0, b8 0, b8 0, b8 0, b8 0, b8 0, b8 0, b8 0, b8 0, b8 0, b8 0], AV.agg [AV.bool v, b8 192, b8 168, b8 0, b8 1, b8 0, b8 0, b8 0, b8 0, b8 0, b8 0, b8 0, b8 0, b8 0, b8 0, b8 0, b8 0]] (hSegSumsB24 v n a q w d S) (AV.bool false) (hSegSumsB23 v n a q w d S)) = true then
 K (AV.bool true)
 else none) else none) else none) else none) else none) else none) else none) else none) else none) else none) else none) else none))
 else none) else none) else none) else none) else none) else none) else none))
 else none) else none) else none) else none) else none) := by
  kernel_rfl

noncomputable def hSegSumsB30 (v : Bool) (n a q w : Int) (d S : List UInt8) : AHeap := [cells (bys d) 1 Md.far none, cells [b8 17, AV.bool v, b8 10, b8 (kb1 n), b8 (kb2 n), b8 (kb3 n), b8 0, b8 0, b8 0, b8 0, b8 0, b8 0, b8 0, b8 0, b8 0, b8 0, b8 0, b8 0, AV.bool v, b8 192, b8 168, b8 0, b8 1, b8 0, b8 0, b8 0, b8 0, b8 0, b8 0, b8 0, b8 0, b8 0, b8 0, b8 0, b8 0, int u16 (kport n), int u16 80] 37 Md.own none]
noncomputable def hSegSumsB31 (v : Bool) (n a q w : Int) (d S : List UInt8) : AHeap := [cells (bys S) 1 Md.own none]
noncomputable def hSegSumsB32 (v : Bool) (n a q w : Int) (d S : List UInt8) : AHeap := [cells (bys d) 1 Md.far none, cells [b8 17, AV.bool v, b8 10, b8 (kb1 n), b8 (kb2 n), b8 (kb3 n), b8 0, b8 0, b8 0, b8 0, b8 0, b8 0, b8 0, b8 0, b8 0, b8 0, b8 0, b8 0, AV.bool v, b8 192, b8 168, b8 0, b8 1, b8 0, b8 0, b8 0, b8 0, b8 0, b8 0, b8 0, b8 0, b8 0, b8 0, b8 0, b8 0, int u16 (kport n), int u16 80] 37 Md.own none, cells (bys S) 1 Md.own none]
noncomputable def hSegSumsB33 (v : Bool) (n a q w : Int) (d S : List UInt8) : AHeap := []
noncomputable def hSegSumsB34 (v : Bool) (n a q w : Int) (d S : List UInt8) : AHeap := [cells (bys d) 1 Md.far none, cells [b8 17, AV.bool v, b8 10, b8 (kb1 n), b8 (kb2 n), b8 (kb3 n), b8 0, b8 0, b8 0, b8 0, b8 0, b8 0, b8 0, b8 0, b8 0, b8 0, b8 0, b8 0, AV.bool v, b8 192, b8 168, b8 0, b8 1, b8 0, b8 0, b8 0, b8 0, b8 0, b8 0, b8 0, b8 0, b8 0, b8 0, b8 0, b8 0, int u16 (kport n), int u16 80] 37 Md.own none, cells (bys S) 1 Md.own none, cells [AV.bool v, b8 10, b8 (kb1 n), b8 (kb2 n), b8 (abits u8 (· ^^^ ·) (intV (some (b8 (kb3 n)))) (u8.wrap (1 * 2 ^ min (q % 8).toNat 8))), b8 0, b8 0, b8 0, b8 0, b8 0, b8 0, b8 0, b8 0, b8 0, b8 0, b8 0, b8 0] 17 Md.own none, ABlk.dead, cells (putCells (List.take (S.length * 1) (bys S)) (0 + (a % (((0 + S.length) : Nat) : Int)).toNat * 1) [b8 (abits u8 (· ^^^ ·) (intV (List.take (S.length * 1) (bys S))[0 + (a % (((0 + S.length) : Nat) : Int)).toNat * 1]?) (u8.wrap (1 * 2 ^ min (q % 8).toNat 8)))]) 1 Md.own none]
theorem nfSegSumsB3 {R : Type} (v : Bool) (n a q w : Int) (d S : List UInt8) (K : AV → Option R) :
 qrun Try.prog (tSS S) 100 4 [(23, .bool false), (34, .bool false), (49, .int .i64 3), (80, .bool true), (86, .bool false)] [] 7 [.int .i64 n, .bool v, .bool true, slB 0 d, .int .i64 a, .int .i64 q, .int .i64 w] [farB d] (fun v _ => K v) =
 (if decide ((d.length : Int) > 300) = false then
 (if cdec (OfR [AV.agg [b8 17, AV.bool v, b8 10, b8 (kb1 n), b8 (kb2 n), b8 (kb3 n), b8 0, b8 0, b8 0, b8 0, b8 0, b8 0, b8 0, b8 0, b8 0, b8 0, b8 0, b8 0, AV.bool v, b8 192, b8 168, b8 0, b8 1, b8 0, b8 0, b8 0, b8 0, b8 0, b8 0, b8 0, b8 0, b8 0, b8 0, b8 0, b8 0, int u16 (kport n), int u16 80], AV.sl (some (0, 0)) d.length 0 false, AV.bool false] (hSegSumsB30 v n a q w d S) (AV.sl (some (2, 0)) S.length 0 false) (hSegSumsB31 v n a q w d S)) = true then
 (if decide ((S.length : Int) < 8) = false then
 (if cdec (Says eGoodS [b8 (intV (some (b8 17))), AV.sl (some (2, 0)) S.length 0 false, AV.agg [AV.bool v, b8 10, b8 (kb1 n), b8 (kb2 n), b8 (kb3 n), b8 0, b8 0, b8 0, b8 0, b8 0, b8 0, b8 0, b8 0, b8 0, b8 0, b8 0, b8 0], AV.agg [AV.bool v, b8 192, b8 168, b8 0, b8 1, b8 0, b8 0, b8 0, b8 0, b8 0, b8 0, b8 0, b8 0, b8 0, b8 0, b8 0, b8 0]] (hSegSumsB32 v n a q w d S) (AV.bool true) (hSegSumsB33 v n a q w d S)) = true then
 (if i64 = i64 ∧ w % 4 = 3 then
 (if q % 8 < 0 then
 none
 else (if (b8 (intV (some (b8 (kb3 n))))).beq (b8 (intV (some (b8 (kb3 n))))) = true then
 (if 0 + S.length * 1 ≤ (bys S).length then
 (if (2 * (0 + S.length) + 200) * 1 ≤ 281474976710656 ∧ some 1 = some 1 ∧ 0 + S.length ≤ 70368744177664 then
 (if 0 = 0 ∧ 0 = 0 ∧ (0 < S.length ∨ 0 = 0) ∧ 1 = 1 ∧ (List.take (S.length * 1) (bys S)).all AV.isCell = true then
 (if decide (0 < (((0 + S.length) : Nat) : Int) ∧ (((0 + S.length) : Nat) : Int) < 4611686018427387904) = true then
 (if 0 ≤ a % (((0 + S.length) : Nat) : Int) ∧ a % (((0 + S.length) : Nat) : Int) < (((0 + S.length) : Nat) : Int) then
 (if isIntV u8 (List.take (S.length * 1) (bys S))[0 + (a % (((0 + S.length) : Nat) : Int)).toNat * 1]? = true then
 (if q % 8 < 0 then
 none
 else (if 0 ≤ a % (((0 + S.length) : Nat) : Int) ∧ a % (((0 + S.length) : Nat) : Int) < (((0 + S.length) : Nat) : Int) then
 (if 0 + (a % (((0 + S.length) : Nat) : Int)).toNat * 1 + [b8 (abits u8 (· ^^^ ·) (intV (List.take (S.length * 1) (bys S))[0 + (a % (((0 + S.length) : Nat) : Int)).toNat * 1]?) (u8.wrap (1 * 2 ^ min (q % 8).toNat 8)))].length ≤ (List.take (S.length * 1) (bys S)).length ∧ [b8 (abits u8 (· ^^^ ·) (intV (List.take (S.length * 1) (bys S))[0 + (a % (((0 + S.length) : Nat) : Int)).toNat * 1]?) (u8.wrap (1 * 2 ^ min (q % 8).toNat 8)))].all AV.isCell = true then
 (if isIntV u8 (List.take (S.length * 1) (bys S))[0 + (a % (((0 + S.length) : Nat) : Int)).toNat * 1]? = true then
 (if (b8 (intV (List.take (S.length * 1) (bys S))[0 + (a % (((0 + S.length) : Nat) : Int)).toNat * 1]?)).beq (b8 (intV (List.take (S.length * 1) (bys S))[0 + (a % (((0 + S.length) : Nat) : Int)).toNat * 1]?)) = true then
 (if Int.ofNat 0 ≤ Int.ofNat 6 ∧ 6 < (((0 + S.length) : Nat) : Int) then
 (if isIntV u8 (putCells (List.take (S.length * 1) (bys S)) (0 + (a % (((0 + S.length) : Nat) : Int)).toNat * 1) [b8 (abits u8 (· ^^^ ·) (intV (List.take (S.length * 1) (bys S))[0 + (a % (((0 + S.length) : Nat) : Int)).toNat * 1]?) (u8.wrap (1 * 2 ^ min (q % 8).toNat 8)))])[6]? = true then
 (if (intV (putCells (List.take (S.length * 1) (bys S)) (0 + (a % (((0 + S.length) : Nat) : Int)).toNat * 1) [b8 (abits u8 (· ^^^ ·) (intV (List.take (S.length * 1) (bys S))[0 + (a % (((0 + S.length) : Nat) : Int)).toNat * 1]?) (u8.wrap (1 * 2 ^ min (q % 8).toNat 8)))])[6]? == 0) = true then
 (if Int.ofNat 0 ≤ Int.ofNat 7 ∧ 7 < (((0 + S.length) : Nat) : Int) then
 (if isIntV u8 (putCells (List.take (S.length * 1) (bys S)) (0 + (a % (((0 + S.length) : Nat) : Int)).toNat * 1) [b8 (abits u8 (· ^^^ ·) (intV (List.take (S.length * 1) (bys S))[0 + (a % (((0 + S.length) : Nat) : Int)).toNat * 1]?) (u8.wrap (1 * 2 ^ min (q % 8).toNat 8)))])[7]? = true then
 (if (intV (putCells (List.take (S.length * 1) (bys S)) (0 + (a % (((0 + S.length) : Nat) : Int)).toNat * 1) [b8 (abits u8 (· ^^^ ·) (intV (List.take (S.length * 1) (bys S))[0 + (a % (((0 + S.length) : Nat) : Int)).toNat * 1]?) (u8.wrap (1 * 2 ^ min (q % 8).toNat 8)))])[7]? == 0) = false then
 (if cdec (Says eGoodS [b8 (intV (some (b8 17))), AV.sl (some (2, 0)) S.length 0 false, AV.agg [AV.bool v, b8 10, b8 (kb1 n), b8 (kb2 n), b8 (abits u8 (· ^^^ ·) (intV (some (b8 (kb3 n)))) (u8.wrap (1 * 2 ^ min (q % 8).toNat 8))), b8 0, b8 0, b8 0, b8 0, b8 0, b8 0, b8 0, b8 0, b8 0, b8 0, b8 0, b8 0], AV.agg [AV.bool v, b8 192, b8 168, b8 0, b8 1, b8 0, b8 0, b8 0, b8 0, b8 0, b8 0, b8 0, b8 0, b8 0, b8 0, b8 0, b8 0]] (hSegSumsB34 v n a q w d S) (AV.bool false) (hSegSumsB33 v n a q w d S)) = true then
 (if cdec (Says eGoodS [b8 (intV (some (b8 17))), AV.sl (some (5, 0)) (0 + S.length) 0 false, AV.agg [AV.bool v, b8 10, b8 (kb1 n), b8 (kb2 n), b8 (kb3 n), b8 0, b8 0, b8 0, b8 0, b8 0, b8 0, b8 0, b8 0, b8 0, b8 0, b8 0, b8 0], AV.agg [AV.bool v, b8 192, b8 168, b8 0, b8 1, b8 0, b8 0, b8 0, b8 0, b8 0, b8 0, b8 0, b8 0, b8 0, b8 0, b8 0, b8 0]] (hSegSumsB34 v n a q w d S) (AV.bool false) (hSegSumsB33 v n a q w d S)) = true then
 K (AV.bool true)
 else none) else none) else none) else none) else none) else none) else none) else none) else none) else none) else none) else none))
 else none) else none) else none) else none) else none) else none) else none))
 else none) else none) else none) else none) else none) := by
  kernel_rfl

noncomputable def hSegSumsC00 (v : Bool) (n a q w : Int) (d S : List UInt8) : AHeap := [cells (bys d) 1 Md.far none, cells [b8 17, AV.bool v, b8 10, b8 (kb1 n), b8 (kb2 n), b8 (kb3 n), b8 0, b8 0, b8 0, b8 0, b8 0, b8 0, b8 0, b8 0, b8 0, b8 0, b8 0, b8 0, AV.bool v, b8 192, b8 168, b8 0, b8 1, b8 0, b8 0, b8 0, b8 0, b8 0, b8 0, b8 0, b8 0, b8 0, b8 0, b8 0, b8 0, int u16 (kport n), int u16 80] 37 Md.own none]
noncomputable def hSegSumsC01 (v : Bool) (n a q w : Int) (d S : List UInt8) : AHeap := [cells (bys S) 1 Md.own none]
noncomputable def hSegSumsC02 (v : Bool) (n a q w : Int) (d S : List UInt8) : AHeap := [cells (bys d) 1 Md.far none, cells [b8 17, AV.bool v, b8 10, b8 (kb1 n), b8 (kb2 n), b8 (kb3 n), b8 0, b8 0, b8 0, b8 0, b8 0, b8 0, b8 0, b8 0, b8 0, b8 0, b8 0, b8 0, AV.bool v, b8 192, b8 168, b8 0, b8 1, b8 0, b8 0, b8 0, b8 0, b8 0, b8 0, b8 0, b8 0, b8 0, b8 0, b8 0, b8 0, int u16 (kport n), int u16 80] 37 Md.own none, cells (bys S) 1 Md.own none]
noncomputable def hSegSumsC03 (v : Bool) (n a q w : Int) (d S : List UInt8) : AHeap := []
noncomputable def hSegSumsC04 (v : Bool) (n a q w : Int) (d S : List UInt8) : AHeap := [cells (bys d) 1 Md.far none, cells [b8 17, AV.bool v, b8 10, b8 (kb1 n), b8 (kb2 n), b8 (kb3 n), b8 0, b8 0, b8 0, b8 0, b8 0, b8 0, b8 0, b8 0, b8 0, b8 0, b8 0, b8 0, AV.bool v, b8 192, b8 168, b8 0, b8 1, b8 0, b8 0, b8 0, b8 0, b8 0, b8 0, b8 0, b8 0, b8 0, b8 0, b8 0, b8 0, int u16 (kport n), int u16 80] 37 Md.own none, cells (bys S) 1 Md.own none, cells [AV.bool v, b8 (abits u8 (· ^^^ ·) (intV (some (b8 10))) (u8.wrap (1 * 2 ^ min (q % 8).toNat 8))), b8 (kb1 n), b8 (kb2 n), b8 (kb3 n), b8 0, b8 0, b8 0, b8 0, b8 0, b8 0, b8 0, b8 0, b8 0, b8 0, b8 0, b8 0] 17 Md.own none, ABlk.dead, cells (putCells (List.take (S.length * 1) (bys S)) (0 + (a % (((0 + S.length) : Nat) : Int)).toNat * 1) [b8 (abits u8 (· ^^^ ·) (intV (List.take (S.length * 1) (bys S))[0 + (a % (((0 + S.length) : Nat) : Int)).toNat * 1]?) (u8.wrap (1 * 2 ^ min (q % 8).toNat 8)))]) 1 Md.own none]
theorem nfSegSumsC0 {R : Type} (v : Bool) (n a q w : Int) (d S : List UInt8) (K : AV → Option R) :
 qrun Try.prog (tSS S) 100 4 [(23, .bool false), (34, .bool false), (49, .int .i64 0), (80, .bool true), (86, .bool true)] [] 7 [.int .i64 n, .bool v, .bool true, slB 0 d, .int .i64 a, .int .i64 q, .int .i64 w] [farB d] (fun v _ => K v) =
 (if decide ((d.length : Int) > 300) = false then
 (if cdec (OfR [AV.agg [b8 17, AV.bool v, b8 10, b8 (kb1 n), b8 (kb2 n), b8 (kb3 n), b8 0, b8 0, b8 0, b8 0, b8 0, b8 0, b8 0, b8 0, b8 0, b8 0, b8 0, b8 0, AV.bool v, b8 192, b8 168, b8 0, b8 1, b8 0, b8 0, b8 0, b8 0, b8 0, b8 0, b8 0, b8 0, b8 0, b8 0, b8 0, b8 0, int u16 (kport n), int u16 80], AV.sl (some (0, 0)) d.length 0 false, AV.bool false] (hSegSumsC00 v n a q w d S) (AV.sl (some (2, 0)) S.length 0 false) (hSegSumsC01 v n a q w d S)) = true then
 (if decide ((S.length : Int) < 8) = false then
 (if cdec (Says eGoodS [b8 (intV (some (b8 17))), AV.sl (some (2, 0)) S.length 0 false, AV.agg [AV.bool v, b8 10, b8 (kb1 n), b8 (kb2 n), b8 (kb3 n), b8 0, b8 0, b8 0, b8 0, b8 0, b8 0, b8 0, b8 0, b8 0, b8 0, b8 0, b8 0], AV.agg [AV.bool v, b8 192, b8 168, b8 0, b8 1, b8 0, b8 0, b8 0, b8 0, b8 0, b8 0, b8 0, b8 0, b8 0, b8 0, b8 0, b8 0]] (hSegSumsC02 v n a q w d S) (AV.bool true) (hSegSumsC03 v n a q w d S)) = true then
 (if i64 = i64 ∧ w % 4 = 0 then
 (if q % 8 < 0 then
 none
 else (if 0 + S.length * 1 ≤ (bys S).length then
 (if (2 * (0 + S.length) + 200) * 1 ≤ 281474976710656 ∧ some 1 = some 1 ∧ 0 + S.length ≤ 70368744177664 then
 (if 0 = 0 ∧ 0 = 0 ∧ (0 < S.length ∨ 0 = 0) ∧ 1 = 1 ∧ (List.take (S.length * 1) (bys S)).all AV.isCell = true then
 (if decide (0 < (((0 + S.length) : Nat) : Int) ∧ (((0 + S.length) : Nat) : Int) < 4611686018427387904) = true then
 (if 0 ≤ a % (((0 + S.length) : Nat) : Int) ∧ a % (((0 + S.length) : Nat) : Int) < (((0 + S.length) : Nat) : Int) then
 (if isIntV u8 (List.take (S.length * 1) (bys S))[0 + (a % (((0 + S.length) : Nat) : Int)).toNat * 1]? = true then
 (if q % 8 < 0 then
 none
 else (if 0 ≤ a % (((0 + S.length) : Nat) : Int) ∧ a % (((0 + S.length) : Nat) : Int) < (((0 + S.length) : Nat) : Int) then
 (if 0 + (a % (((0 + S.length) : Nat) : Int)).toNat * 1 + [b8 (abits u8 (· ^^^ ·) (intV (List.take (S.length * 1) (bys S))[0 + (a % (((0 + S.length) : Nat) : Int)).toNat * 1]?) (u8.wrap (1 * 2 ^ min (q % 8).toNat 8)))].length ≤ (List.take (S.length * 1) (bys S)).length ∧ [b8 (abits u8 (· ^^^ ·) (intV (List.take (S.length * 1) (bys S))[0 + (a % (((0 + S.length) : Nat) : Int)).toNat * 1]?) (u8.wrap (1 * 2 ^ min (q % 8).toNat 8)))].all AV.isCell = true then
 (if isIntV u8 (List.take (S.length * 1) (bys S))[0 + (a % (((0 + S.length) : Nat) : Int)).toNat * 1]? = true then
 (if (b8 (intV (List.take (S.length * 1) (bys S))[0 + (a % (((0 + S.length) : Nat) : Int)).toNat * 1]?)).beq (b8 (intV (List.take (S.length * 1) (bys S))[0 + (a % (((0 + S.length) : Nat) : Int)).toNat * 1]?)) = true then
 (if Int.ofNat 0 ≤ Int.ofNat 6 ∧ 6 < (((0 + S.length) : Nat) : Int) then
 (if isIntV u8 (putCells (List.take (S.length * 1) (bys S)) (0 + (a % (((0 + S.length) : Nat) : Int)).toNat * 1) [b8 (abits u8 (· ^^^ ·) (intV (List.take (S.length * 1) (bys S))[0 + (a % (((0 + S.length) : Nat) : Int)).toNat * 1]?) (u8.wrap (1 * 2 ^ min (q % 8).toNat 8)))])[6]? = true then
 (if (intV (putCells (List.take (S.length * 1) (bys S)) (0 + (a % (((0 + S.length) : Nat) : Int)).toNat * 1) [b8 (abits u8 (· ^^^ ·) (intV (List.take (S.length * 1) (bys S))[0 + (a % (((0 + S.length) : Nat) : Int)).toNat * 1]?) (u8.wrap (1 * 2 ^ min (q % 8).toNat 8)))])[6]? == 0) = true then
 (if Int.ofNat 0 ≤ Int.ofNat 7 ∧ 7 < (((0 + S.length) : Nat) : Int) then
 (if isIntV u8 (putCells (List.take (S.length * 1) (bys S)) (0 + (a % (((0 + S.length) : Nat) : Int)).toNat * 1) [b8 (abits u8 (· ^^^ ·) (intV (List.take (S.length * 1) (bys S))[0 + (a % (((0 + S.length) : Nat) : Int)).toNat * 1]?) (u8.wrap (1 * 2 ^ min (q % 8).toNat 8)))])[7]? = true then
 (if (intV (putCells (List.take (S.length * 1) (bys S)) (0 + (a % (((0 + S.length) : Nat) : Int)).toNat * 1) [b8 (abits u8 (· ^^^ ·) (intV (List.take (S.length * 1) (bys S))[0 + (a % (((0 + S.length) : Nat) : Int)).toNat * 1]?) (u8.wrap (1 * 2 ^ min (q % 8).toNat 8)))])[7]? == 0) = true then
 (if cdec (Says eGoodS [b8 (intV (some (b8 17))), AV.sl (some (2, 0)) S.length 0 false, AV.agg [AV.bool v, b8 (abits u8 (· ^^^ ·) (intV (some (b8 10))) (u8.wrap (1 * 2 ^ min (q % 8).toNat 8))), b8 (kb1 n), b8 (kb2 n), b8 (kb3 n), b8 0, b8 0, b8 0, b8 0, b8 0, b8 0, b8 0, b8 0, b8 0, b8 0, b8 0, b8 0], AV.agg [AV.bool v, b8 192, b8 168, b8 0, b8 1, b8 0, b8 0, b8 0, b8 0, b8 0, b8 0, b8 0, b8 0, b8 0, b8 0, b8 0, b8 0]] (hSegSumsC04 v n a q w d S) (AV.bool false) (hSegSumsC03 v n a q w d S)) = true then
 K (AV.bool true)
 else none) else none) else none) else none) else none) else none) else none) else none) else none) else none) else none))
 else none) else none) else none) else none) else none) else none))
 else none) else none) else none) else none) else none) := by
  kernel_rfl

noncomputable def hSegSumsC10 (v : Bool) (n a q w : Int) (d S : List UInt8) : AHeap := [cells (bys d) 1 Md.far none, cells [b8 17, AV.bool v, b8 10, b8 (kb1 n), b8 (kb2 n), b8 (kb3 n), b8 0, b8 0, b8 0, b8 0, b8 0, b8 0, b8 0, b8 0, b8 0, b8 0, b8 0, b8 0, AV.bool v, b8 192, b8 168, b8 0, b8 1, b8 0, b8 0, b8 0, b8 0, b8 0, b8 0, b8 0, b8 0, b8 0, b8 0, b8 0, b8 0, int u16 (kport n), int u16 80] 37 Md.own none]
noncomputable def hSegSumsC11 (v : Bool) (n a q w : Int) (d S : List UInt8) : AHeap := [cells (bys S) 1 Md.own none]
noncomputable def hSegSumsC12 (v : Bool) (n a q w : Int) (d S : List UInt8) : AHeap := [cells (bys d) 1 Md.far none, cells [b8 17, AV.bool v, b8 10, b8 (kb1 n), b8 (kb2 n), b8 (kb3 n), b8 0, b8 0, b8 0, b8 0, b8 0, b8 0, b8 0, b8 0, b8 0, b8 0, b8 0, b8 0, AV.bool v, b8 192, b8 168, b8 0, b8 1, b8 0, b8 0, b8 0, b8 0, b8 0, b8 0, b8 0, b8 0, b8 0, b8 0, b8 0, b8 0, int u16 (kport n), int u16 80] 37 Md.own none, cells (bys S) 1 Md.own none]
noncomputable def hSegSumsC13 (v : Bool) (n a q w : Int) (d S : List UInt8) : AHeap := []
noncomputable def hSegSumsC14 (v : Bool) (n a q w : Int) (d S : List UInt8) : AHeap := [cells (bys d) 1 Md.far none, cells [b8 17, AV.bool v, b8 10, b8 (kb1 n), b8 (kb2 n), b8 (kb3 n), b8 0, b8 0, b8 0, b8 0, b8 0, b8 0, b8 0, b8 0, b8 0, b8 0, b8 0, b8 0, AV.bool v, b8 192, b8 168, b8 0, b8 1, b8 0, b8 0, b8 0, b8 0, b8 0, b8 0, b8 0, b8 0, b8 0, b8 0, b8 0, b8 0, int u16 (kport n), int u16 80] 37 Md.own none, cells (bys S) 1 Md.own none, cells [AV.bool v, b8 10, b8 (abits u8 (· ^^^ ·) (intV (some (b8 (kb1 n)))) (u8.wrap (1 * 2 ^ min (q % 8).toNat 8))), b8 (kb2 n), b8 (kb3 n), b8 0, b8 0, b8 0, b8 0, b8 0, b8 0, b8 0, b8 0, b8 0, b8 0, b8 0, b8 0] 17 Md.own none, ABlk.dead, cells (putCells (List.take (S.length * 1) (bys S)) (0 + (a % (((0 + S.length) : Nat) : Int)).toNat * 1) [b8 (abits u8 (· ^^^ ·) (intV (List.take (S.length * 1) (bys S))[0 + (a % (((0 + S.length) : Nat) : Int)).toNat * 1]?) (u8.wrap (1 * 2 ^ min (q % 8).toNat 8)))]) 1 Md.own none]
theorem nfSegSumsC1 {R : Type} (v : Bool) (n a q w : Int) (d S : List UInt8) (K : AV → Option R) :
 qrun Try.prog (tSS S) 100 4 [(23, .bool false), (34, .bool false), (49, .int .i64 1), (80, .bool true), (86, .bool true)] [] 7 [.int .i64 n, .bool v, .bool true, slB 0 d, .int .i64 a, .int .i64 q, .int .i64 w] [farB d] (fun v _ => K v) =
 (if decide ((d.length : Int) > 300) = false then
 (if cdec (OfR [AV.agg [b8 17, AV.bool v, b8 10, b8 (kb1 n), b8 (kb2 n), b8 (kb3 n), b8 0, b8 0, b8 0, b8 0, b8 0, b8 0, b8 0, b8 0, b8 0, b8 0, b8 0, b8 0, AV.bool v, b8 192, b8 168, b8 0, b8 1, b8 0, b8 0, b8 0, b8 0, b8 0, b8 0, b8 0, b8 0, b8 0, b8 0, b8 0, b8 0, int u16 (kport n), int u16 80], AV.sl (some (0, 0)) d.length 0 false, AV.bool false] (hSegSumsC10 v n a q w d S) (AV.sl (some (2, 0)) S.length 0 false) (hSegSumsC11 v n a q w d S)) = true then
 (if decide ((S.length : Int) < 8) = false then
 (if cdec (Says eGoodS [b8 (intV (some (b8 17))), AV.sl (some (2, 0)) S.length 0 false, AV.agg [AV.bool v, b8 10, b8 (kb1 n), b8 (kb2 n), b8 (kb3 n), b8 0, b8 0, b8 0, b8 0, b8 0, b8 0, b8 0, b8 0, b8 0, b8 0, b8 0, b8 0], AV.agg [AV.bool v, b8 192, b8 168, b8 0, b8 1, b8 0, b8 0, b8 0, b8 0, b8 0, b8 0, b8 0, b8 0, b8 0, b8 0, b8 0, b8 0]] (hSegSumsC12 v n a q w d S) (AV.bool true) (hSegSumsC13 v n a q w d S)) = true then
 (if i64 = i64 ∧ w % 4 = 1 then
 (if q % 8 < 0 then
 none
 else (if (b8 (intV (some (b8 (kb1 n))))).beq (b8 (intV (some (b8 (kb1 n))))) = true then
 (if 0 + S.length * 1 ≤ (bys S).length then
 (if (2 * (0 + S.length) + 200) * 1 ≤ 281474976710656 ∧ some 1 = some 1 ∧ 0 + S.length ≤ 70368744177664 then
 (if 0 = 0 ∧ 0 = 0 ∧ (0 < S.length ∨ 0 = 0) ∧ 1 = 1 ∧ (List.take (S.length * 1) (bys S)).all AV.isCell = true then
 (if decide (0 < (((0 + S.length) : Nat) : Int) ∧ (((0 + S.length) : Nat) : Int) < 4611686018427387904) = true then
 (if 0 ≤ a % (((0 + S.length) : Nat) : Int) ∧ a % (((0 + S.length) : Nat) : Int) < (((0 + S.length) : Nat) : Int) then
 (if isIntV u8 (List.take (S.length * 1) (bys S))[0 + (a % (((0 + S.length) : Nat) : Int)).toNat * 1]? = true then
 (if q % 8 < 0 then
 none
 else (if 0 ≤ a % (((0 + S.length) : Nat) : Int) ∧ a % (((0 + S.length) : Nat) : Int) < (((0 + S.length) : Nat) : Int) then
 (if 0 + (a % (((0 + S.length) : Nat) : Int)).toNat * 1 + [b8 (abits u8 (· ^^^ ·) (intV (List.take (S.length * 1) (bys S))[0 + (a % (((0 + S.length) : Nat) : Int)).toNat * 1]?) (u8.wrap (1 * 2 ^ min (q % 8).toNat 8)))].length ≤ (List.take (S.length * 1) (bys S)).length ∧ [b8 (abits u8 (· ^^^ ·) (intV (List.take (S.length * 1) (bys S))[0 + (a % (((0 + S.length) : Nat) : Int)).toNat * 1]?) (u8.wrap (1 * 2 ^ min (q % 8).toNat 8)))].all AV.isCell = true then
 (if isIntV u8 (List.take (S.length * 1) (bys S))[0 + (a % (((0 + S.length) : Nat) : Int)).toNat * 1]? = true then
 (if (b8 (intV (List.take (S.length * 1) (bys S))[0 + (a % (((0 + S.length) : Nat) : Int)).toNat * 1]?)).beq (b8 (intV (List.take (S.length * 1) (bys S))[0 + (a % (((0 + S.length) : Nat) : Int)).toNat * 1]?)) = true then
 (if Int.ofNat 0 ≤ Int.ofNat 6 ∧ 6 < (((0 + S.length) : Nat) : Int) then
 (if isIntV u8 (putCells (List.take (S.length * 1) (bys S)) (0 + (a % (((0 + S.length) : Nat) : Int)).toNat * 1) [b8 (abits u8 (· ^^^ ·) (intV (List.take (S.length * 1) (bys S))[0 + (a % (((0 + S.length) : Nat) : Int)).toNat * 1]?) (u8.wrap (1 * 2 ^ min (q % 8).toNat 8)))])[6]? = true then
 (if (intV (putCells (List.take (S.length * 1) (bys S)) (0 + (a % (((0 + S.length) : Nat) : Int)).toNat * 1) [b8 (abits u8 (· ^^^ ·) (intV (List.take (S.length * 1) (bys S))[0 + (a % (((0 + S.length) : Nat) : Int)).toNat * 1]?) (u8.wrap (1 * 2 ^ min (q % 8).toNat 8)))])[6]? == 0) = true then
 (if Int.ofNat 0 ≤ Int.ofNat 7 ∧ 7 < (((0 + S.length) : Nat) : Int) then
 (if isIntV u8 (putCells (List.take (S.length * 1) (bys S)) (0 + (a % (((0 + S.length) : Nat) : Int)).toNat * 1) [b8 (abits u8 (· ^^^ ·) (intV (List.take (S.length * 1) (bys S))[0 + (a % (((0 + S.length) : Nat) : Int)).toNat * 1]?) (u8.wrap (1 * 2 ^ min (q % 8).toNat 8)))])[7]? = true then
 (if (intV (putCells (List.take (S.length * 1) (bys S)) (0 + (a % (((0 + S.length) : Nat) : Int)).toNat * 1) [b8 (abits u8 (· ^^^ ·) (intV (List.take (S.length * 1) (bys S))[0 + (a % (((0 + S.length) : Nat) : Int)).toNat * 1]?) (u8.wrap (1 * 2 ^ min (q % 8).toNat 8)))])[7]? == 0) = true then
 (if cdec (Says eGoodS [b8 (intV (some (b8 17))), AV.sl (some (2, 0)) S.length 0 false, AV.agg [AV.bool v, b8 10, b8 (abits u8 (· ^^^ ·) (intV (some (b8 (kb1 n)))) (u8.wrap (1 * 2 ^ min (q % 8).toNat 8))), b8 (kb2 n), b8 (kb3 n), b8 0, b8 0, b8 0, b8 0, b8 0, b8 0, b8 0, b8 0, b8 0, b8 0, b8 0, b8 0], AV.agg [AV.bool v, b8 192, b8 168, b8 0, b8 1, b8 0, b8 0, b8 0, b8 0, b8 0, b8 0, b8 0, b8 0, b8 0, b8 0, b8 0, b8 0]] (hSegSumsC14 v n a q w d S) (AV.bool false) (hSegSumsC13 v n a q w d S)) = true then
 K (AV.bool true)
 else none) else none) else none) else none) else none) else none) else none) else none) else none) else none) else none))
 else none) else none) else none) else none) else none) else none) else none))
 else none) else none) else none) else none) else none) := by
  kernel_rfl

noncomputable def hSegSumsC20 (v : Bool) (n a q w : Int) (d S : List UInt8) : AHeap := [cells (bys d) 1 Md.far none, cells [b8 17, AV.bool v, b8 10, b8 (kb1 n), b8 (kb2 n), b8 (kb3 n), b8 0, b8 0, b8 0, b8 0, b8 0, b8 0, b8 0, b8 0, b8 0, b8 0, b8 0, b8 0, AV.bool v, b8 192, b8 168, b8 0, b8 1, b8 0, b8 0, b8 0, b8 0, b8 0, b8 0, b8 0, b8 0, b8 0, b8 0, b8 0, b8 0, int u16 (kport n), int u16 80] 37 Md.own none]
noncomputable def hSegSumsC21 (v : Bool) (n a q w : Int) (d S : List UInt8) : AHeap := [cells (bys S) 1 Md.own none]
noncomputable def hSegSumsC22 (v : Bool) (n a q w : Int) (d S : List UInt8) : AHeap := [cells (bys d) 1 Md.far none, cells [b8 17, AV.bool v, b8 10, b8 (kb1 n), b8 (kb2 n), b8 (kb3 n), b8 0, b8 0, b8 0, b8 0, b8 0, b8 0, b8 0, b8 0, b8 0, b8 0, b8 0, b8 0, AV.bool v, b8 192, b8 168, b8 0, b8 1, b8 0, b8 0, b8 0, b8 0, b8 0, b8 0, b8 0, b8 0, b8 0, b8 0, b8 0, b8 0, int u16 (kport n), int u16 80] 37 Md.own none, cells (bys S) 1 Md.own none]
noncomputable def hSegSumsC23 (v : Bool) (n a q w : Int) (d S : List UInt8) : AHeap := []
noncomputable def hSegSumsC24 (v : Bool) (n a q w : Int) (d S : List UInt8) : AHeap := [cells (bys d) 1 Md.far none, cells [b8 17, AV.bool v, b8 10, b8 (kb1 n), b8 (kb2 n), b8 (kb3 n), b8 0, b8 0, b8 0, b8 0, b8 0, b8 0, b8 0, b8 0, b8 0, b8 0, b8 0, b8 0, AV.bool v, b8 192, b8 168, b8 0, b8 1, b8 0, b8 0, b8 0, b8 0, b8 0, b8 0, b8 0, b8 0, b8 0, b8 0, b8 0, b8 0, int u16 (kport n), int u16 80] 37 Md.own none, cells (bys S) 1 Md.own none, cells [AV.bool v, b8 10, b8 (kb1 n), b8 (abits u8 (· ^^^ ·) (intV (some (b8 (kb2 n)))) (u8.wrap (1 * 2 ^ min (q % 8).toNat 8))), b8 (kb3 n), b8 0, b8 0, b8 0, b8 0, b8 0, b8 0, b8 0, b8 0, b8 0, b8 0, b8 0, b8 0] 17 Md.own none, ABlk.dead, cells (putCells (List.take (S.length * 1) (bys S)) (0 + (a % (((0 + S.length) : Nat) : Int)).toNat * 1) [b8 (abits u8 (· ^^^ ·) (intV (List.take (S.length * 1) (bys S))[0 + (a % (((0 + S.length) : Nat) : Int)).toNat * 1]?) (u8.wrap (1 * 2 ^ min (q % 8).toNat 8)))]) 1 Md.own none]
theorem nfSegSumsC2 {R : Type} (v : Bool) (n a q w : Int) (d S : List UInt8) (K : AV → Option R) :
 qrun Try.prog (tSS S) 100 4 [(23, .bool false), (34, .bool false), (49, .int .i64 2), (80, .bool true), (86, .bool true)] [] 7 [.int .i64 n, .bool v, .bool true, slB 0 d, .int .i64 a, .int .i64 q, .int .i64 w] [farB d] (fun v _ => K v) =
 (if decide ((d.length : Int) > 300) = false then
 (if cdec (OfR [AV.agg [b8 17, AV.bool v, b8 10, b8 (kb1 n), b8 (kb2 n), b8 (kb3 n), b8 0, b8 0, b8 0, b8 0, b8 0, b8 0, b8 0, b8 0, b8 0, b8 0, b8 0, b8 0, AV.bool v, b8 192, b8 168, b8 0, b8 1, b8 0, b8 0, b8 0, b8 0, b8 0, b8 0, b8 0, b8 0, b8 0, b8 0, b8 0, b8 0, int u16 (kport n), int u16 80], AV.sl (some (0, 0)) d.length 0 false, AV.bool false] (hSegSumsC20 v n a q w d S) (AV.sl (some (2, 0)) S.length 0 false) (hSegSumsC21 v n a q w d S)) = true then
 (if decide ((S.length : Int) < 8) = false then
 (if cdec (Says eGoodS [b8 (intV (some (b8 17))), AV.sl (some (2, 0)) S.length 0 false, AV.agg [AV.bool v, b8 10, b8 (kb1 n), b8 (kb2 n), b8 (kb3 n), b8 0, b8 0, b8 0, b8 0, b8 0, b8 0, b8 0, b8 0, b8 0, b8 0, b8 0, b8 0], AV.agg [AV.bool v, b8 192, b8 168, b8 0, b8 1, b8 0, b8 0, b8 0, b8 0, b8 0, b8 0, b8 0, b8 0, b8 0, b8 0, b8 0, b8 0]] (hSegSumsC22 v n a q w d S) (AV.bool true) (hSegSumsC23 v n a q w d S)) = true then
 (if i64 = i64 ∧ w % 4 = 2 then
 (if q % 8 < 0 then
 none
 else (if (b8 (intV (some (b8 (kb2 n))))).beq (b8 (intV (some (b8 (kb2 n))))) = true then
 (if 0 + S.length * 1 ≤ (bys S).length then
 (if (2 * (0 + S.length) + 200) * 1 ≤ 281474976710656 ∧ some 1 = some 1 ∧ 0 + S.length ≤ 70368744177664 then
 (if 0 = 0 ∧ 0 = 0 ∧ (0 < S.length ∨ 0 = 0) ∧ 1 = 1 ∧ (List.take (S.length * 1) (bys S)).all AV.isCell = true then
 (if decide (0 < (((0 + S.length) : Nat) : Int) ∧ (((0 + S.length) : Nat) : Int) < 4611686018427387904) = true then
 (if 0 ≤ a % (((0 + S.length) : Nat) : Int) ∧ a % (((0 + S.length) : Nat) : Int) < (((0 + S.length) : Nat) : Int) then
 (if isIntV u8 (List.take (S.length * 1) (bys S))[0 + (a % (((0 + S.length) : Nat) : Int)).toNat * 1]? = true then
 (if q % 8 < 0 then
 none
 else (if 0 ≤ a % (((0 + S.length) : Nat) : Int) ∧ a % (((0 + S.length) : Nat) : Int) < (((0 + S.length) : Nat) : Int) then
 (if 0 + (a % (((0 + S.length) : Nat) : Int)).toNat * 1 + [b8 (abits u8 (· ^^^ ·) (intV (List.take (S.length * 1) (bys S))[0 + (a % (((0 + S.length) : Nat) : Int)).toNat * 1]?) (u8.wrap (1 * 2 ^ min (q % 8).toNat 8)))].length ≤ (List.take (S.length * 1) (bys S)).length ∧ [b8 (abits u8 (· ^^^ ·) (intV (List.take (S.length * 1) (bys S))[0 + (a % (((0 + S.length) : Nat) : Int)).toNat * 1]?) (u8.wrap (1 * 2 ^ min (q % 8).toNat 8)))].all AV.isCell = true then
 (if isIntV u8 (List.take (S.length * 1) (bys S))[0 + (a % (((0 + S.length) : Nat) : Int)).toNat * 1]? = true then
 (if (b8 (intV (List.take (S.length * 1) (bys S))[0 + (a % (((0 + S.length) : Nat) : Int)).toNat * 1]?)).beq (b8 (intV (List.take (S.length * 1) (bys S))[0 + (a % (((0 + S.length) : Nat) : Int)).toNat * 1]?)) = true then
 (if Int.ofNat 0 ≤ Int.ofNat 6 ∧ 6 < (((0 + S.length) : Nat) : Int) then
 (if isIntV u8 (putCells (List.take (S.length * 1) (bys S)) (0 + (a % (((0 + S.length) : Nat) : Int)).toNat * 1) [b8 (abits u8 (· ^^^ ·) (intV (List.take (S.length * 1) (bys S))[0 + (a % (((0 + S.length) : Nat) : Int)).toNat * 1]?) (u8.wrap (1 * 2 ^ min (q % 8).toNat 8)))])[6]? = true then
 (if (intV (putCells (List.take (S.length * 1) (bys S)) (0 + (a % (((0 + S.length) : Nat) : Int)).toNat * 1) [b8 (abits u8 (· ^^^ ·) (intV (List.take (S.length * 1) (bys S))[0 + (a % (((0 + S.length) : Nat) : Int)).toNat * 1]?) (u8.wrap (1 * 2 ^ min (q % 8).toNat 8)))])[6]? == 0) = true then
 (if Int.ofNat 0 ≤ Int.ofNat 7 ∧ 7 < (((0 + S.length) : Nat) : Int) then
 (if isIntV u8 (putCells (List.take (S.length * 1) (bys S)) (0 + (a % (((0 + S.length) : Nat) : Int)).toNat * 1) [b8 (abits u8 (· ^^^ ·) (intV (List.take (S.length * 1) (bys S))[0 + (a % (((0 + S.length) : Nat) : Int)).toNat * 1]?) (u8.wrap (1 * 2 ^ min (q % 8).toNat 8)))])[7]? = true then
 (if (intV (putCells (List.take (S.length * 1) (bys S)) (0 + (a % (((0 + S.length) : Nat) : Int)).toNat * 1) [b8 (abits u8 (· ^^^ ·) (intV (List.take (S.length * 1) (bys S))[0 + (a % (((0 + S.length) : Nat) : Int)).toNat * 1]?) (u8.wrap (1 * 2 ^ min (q % 8).toNat 8)))])[7]? == 0) = true then
 (if cdec (Says eGoodS [b8 (intV (some (b8 17))), AV.sl (some (2, 0)) S.length 0 false, AV.agg [AV.bool v, b8 10, b8 (kb1 n), b8 (abits u8 (· ^^^ ·) (intV (some (b8 (kb2 n)))) (u8.wrap (1 * 2 ^ min (q % 8).toNat 8))), b8 (kb3 n), b8 0, b8 0, b8 0, b8 0, b8 0, b8 0, b8 0, b8 0, b8 0, b8 0, b8 0, b8 0], AV.agg [AV.bool v, b8 192, b8 168, b8 0, b8 1, b8 0, b8 0, b8 0, b8 0, b8 0, b8 0, b8 0, b8 0, b8 0, b8 0, b8 0, b8 0]] (hSegSumsC24 v n a q w d S) (AV.bool false) (hSegSumsC23 v n a q w d S)) = true then
 K (AV.bool true)
 else none) else none) else none) else none) else none) else none) else none) else none) else none) else none) else none))
 else none) else none) else none) else none) else none) else none) else none))
 else none) else none) else none) else none) else none) := by
  kernel_rfl

noncomputable def hSegSumsC30 (v : Bool) (n a q w : Int) (d S : List UInt8) : AHeap := [cells (bys d) 1 Md.far none, cells [b8 17, AV.bool v, b8 10, b8 (kb1 n), b8 (kb2 n), b8 (kb3 n), b8 0, b8 0, b8 0, b8 0, b8 0, b8 0, b8 0, b8 0, b8 0, b8 0, b8 0, b8 0, AV.bool v, b8 192, b8 168, b8 0, b8 1, b8 0, b8 0, b8 0, b8 0, b8 0, b8 0, b8 0, b8 0, b8 0, b8 0, b8 0, b8 0, int u16 (kport n), int u16 80] 37 Md.own none]
noncomputable def hSegSumsC31 (v : Bool) (n a q w : Int) (d S : List UInt8) : AHeap := [cells (bys S) 1 Md.own none]
noncomputable def hSegSumsC32 (v : Bool) (n a q w : Int) (d S : List UInt8) : AHeap := [cells (bys d) 1 Md.far none, cells [b8 17, AV.bool v, b8 10, b8 (kb1 n), b8 (kb2 n), b8 (kb3 n), b8 0, b8 0, b8 0, b8 0, b8 0, b8 0, b8 0, b8 0, b8 0, b8 0, b8 0, b8 0, AV.bool v, b8 192, b8 168, b8 0, b8 1, b8 0, b8 0, b8 0, b8 0, b8 0, b8 0, b8 0, b8 0, b8 0, b8 0, b8 0, b8 0, int u16 (kport n), int u16 80] 37 Md.own none, cells (bys S) 1 Md.own none]
noncomputable def hSegSumsC33 (v : Bool) (n a q w : Int) (d S : List UInt8) : AHeap := []
noncomputable def hSegSumsC34 (v : Bool) (n a q w : Int) (d S : List UInt8) : AHeap := [cells (bys d) 1 Md.far none, cells [b8 17, AV.bool v, b8 10, b8 (kb1 n), b8 (kb2 n), b8 (kb3 n), b8 0, b8 0, b8 0, b8 0, b8 0, b8 0, b8 0, b8 0, b8 0, b8 0, b8 0, b8 0, AV.bool v, b8 192, b8 168, b8 0, b8 1, b8 0, b8 0, b8 0, b8 0, b8 0, b8 0, b8 0, b8 0, b8 0, b8 0, b8 0, b8 0, int u16 (kport n), int u16 80] 37 Md.own none, cells (bys S) 1 Md.own none, cells [AV.bool v, b8 10, b8 (kb1 n), b8 (kb2 n), b8 (abits u8 (· ^^^ ·) (intV (some (b8 (kb3 n)))) (u8.wrap (1 * 2 ^ min (q % 8).toNat 8))), b8 0, b8 0, b8 0, b8 0, b8 0, b8 0, b8 0, b8 0, b8 0, b8 0, b8 0, b8 0] 17 Md.own none, ABlk.dead, cells (putCells (List.take (S.length * 1) (bys S)) (0 + (a % (((0 + S.length) : Nat) : Int)).toNat * 1) [b8 (abits u8 (· ^^^ ·) (intV (List.take (S.length * 1) (bys S))[0 + (a % (((0 + S.length) : Nat) : Int)).toNat * 1]?) (u8.wrap (1 * 2 ^ min (q % 8).toNat 8)))]) 1 Md.own none]
theorem nfSegSumsC3 {R : Type} (v : Bool) (n a q w : Int) (d S : List UInt8) (K : AV → Option R) :
 qrun Try.prog (tSS S) 100 4 [(23, .bool false), (34, .bool false), (49, .int .i64 3), (80, .bool true), (86, .bool true)] [] 7 [.int .i64 n, .bool v, .bool true, slB 0 d, .int .i64 a, .int .i64 q, .int .i64 w] [farB d] (fun v _ => K v) =
 (if decide ((d.length : Int) > 300) = false then
 (if cdec (OfR [AV.agg [b8 17, AV.bool v, b8 10, b8 (kb1 n), b8 (kb2 n), b8 (kb3 n), b8 0, b8 0, b8 0, b8 0, b8 0, b8 0, b8 0, b8 0, b8 0, b8 0, b8 0, b8 0, AV.bool v, b8 192, b8 168, b8 0, b8 1, b8 0, b8 0, b8 0, b8 0, b8 0, b8 0, b8 0, b8 0, b8 0, b8 0, b8 0, b8 0, int u16 (kport n), int u16 80], AV.sl (some (0, 0)) d.length 0 false, AV.bool false] (hSegSumsC30 v n a q w d S) (AV.sl (some (2, 0)) S.length 0 false) (hSegSumsC31 v n a q w d S)) = true then
 (if decide ((S.length : Int) < 8) = false then
 (if cdec (Says eGoodS [b8 (intV (some (b8 17))), AV.sl (some (2, 0)) S.length 0 false, AV.agg [AV.bool v, b8 10, b8 (kb1 n), b8 (kb2 n), b8 (kb3 n), b8 0, b8 0, b8 0, b8 0, b8 0, b8 0, b8 0, b8 0, b8 0, b8 0, b8 0, b8 0], AV.agg [AV.bool v, b8 192, b8 168, b8 0, b8 1, b8 0, b8 0, b8 0, b8 0, b8 0, b8 0, b8 0, b8 0, b8 0, b8 0, b8 0, b8 0]] (hSegSumsC32 v n a q w d S) (AV.bool true) (hSegSumsC33 v n a q w d S)) = true then
 (if i64 = i64 ∧ w % 4 = 3 then
 (if q % 8 < 0 then
 none
 else (if (b8 (intV (some (b8 (kb3 n))))).beq (b8 (intV (some (b8 (kb3 n))))) = true then
 (if 0 + S.length * 1 ≤ (bys S).length then
 (if (2 * (0 + S.length) + 200) * 1 ≤ 281474976710656 ∧ some 1 = some 1 ∧ 0 + S.length ≤ 70368744177664 then
 (if 0 = 0 ∧ 0 = 0 ∧ (0 < S.length ∨ 0 = 0) ∧ 1 = 1 ∧ (List.take (S.length * 1) (bys S)).all AV.isCell = true then
 (if decide (0 < (((0 + S.length) : Nat) : Int) ∧ (((0 + S.length) : Nat) : Int) < 4611686018427387904) = true then
 (if 0 ≤ a % (((0 + S.length) : Nat) : Int) ∧ a % (((0 + S.length) : Nat) : Int) < (((0 + S.length) : Nat) : Int) then
 (if isIntV u8 (List.take (S.length * 1) (bys S))[0 + (a % (((0 + S.length) : Nat) : Int)).toNat * 1]? = true then
 (if q % 8 < 0 then
 none
 else (if 0 ≤ a % (((0 + S.length) : Nat) : Int) ∧ a % (((0 + S.length) : Nat) : Int) < (((0 + S.length) : Nat) : Int) then
 (if 0 + (a % (((0 + S.length) : Nat) : Int)).toNat * 1 + [b8 (abits u8 (· ^^^ ·) (intV (List.take (S.length * 1) (bys S))[0 + (a % (((0 + S.length) : Nat) : Int)).toNat * 1]?) (u8.wrap (1 * 2 ^ min (q % 8).toNat 8)))].length ≤ (List.take (S.length * 1) (bys S)).length ∧ [b8 (abits u8 (· ^^^ ·) (intV (List.take (S.length * 1) (bys S))[0 + (a % (((0 + S.length) : Nat) : Int)).toNat * 1]?) (u8.wrap (1 * 2 ^ min (q % 8).toNat 8)))].all AV.isCell = true then
 (if isIntV u8 (List.take (S.length * 1) (bys S))[0 + (a % (((0 + S.length) : Nat) : Int)).toNat * 1]? = true then
 (if (b8 (intV (List.take (S.length * 1) (bys S))[0 + (a % (((0 + S.length) : Nat) : Int)).toNat * 1]?)).beq (b8 (intV (List.take (S.length * 1) (bys S))[0 + (a % (((0 + S.length) : Nat) : Int)).toNat * 1]?)) = true then
 (if Int.ofNat 0 ≤ Int.ofNat 6 ∧ 6 < (((0 + S.length) : Nat) : Int) then
 (if isIntV u8 (putCells (List.take (S.length * 1) (bys S)) (0 + (a % (((0 + S.length) : Nat) : Int)).toNat * 1) [b8 (abits u8 (· ^^^ ·) (intV (List.take (S.length * 1) (bys S))[0 + (a % (((0 + S.length) : Nat) : Int)).toNat * 1]?) (u8.wrap (1 * 2 ^ min (q % 8).toNat 8)))])[6]? = true then
 (if (intV (putCells (List.take (S.length * 1) (bys S)) (0 + (a % (((0 + S.length) : Nat) : Int)).toNat * 1) [b8 (abits u8 (· ^^^ ·) (intV (List.take (S.length * 1) (bys S))[0 + (a % (((0 + S.length) : Nat) : Int)).toNat * 1]?) (u8.wrap (1 * 2 ^ min (q % 8).toNat 8)))])[6]? == 0) = true then
 (if Int.ofNat 0 ≤ Int.ofNat 7 ∧ 7 < (((0 + S.length) : Nat) : Int) then
 (if isIntV u8 (putCells (List.take (S.length * 1) (bys S)) (0 + (a % (((0 + S.length) : Nat) : Int)).toNat * 1) [b8 (abits u8 (· ^^^ ·) (intV (List.take (S.length * 1) (bys S))[0 + (a % (((0 + S.length) : Nat) : Int)).toNat * 1]?) (u8.wrap (1 * 2 ^ min (q % 8).toNat 8)))])[7]? = true then
 (if (intV (putCells (List.take (S.length * 1) (bys S)) (0 + (a % (((0 + S.length) : Nat) : Int)).toNat * 1) [b8 (abits u8 (· ^^^ ·) (intV (List.take (S.length * 1) (bys S))[0 + (a % (((0 + S.length) : Nat) : Int)).toNat * 1]?) (u8.wrap (1 * 2 ^ min (q % 8).toNat 8)))])[7]? == 0) = true then
 (if cdec (Says eGoodS [b8 (intV (some (b8 17))), AV.sl (some (2, 0)) S.length 0 false, AV.agg [AV.bool v, b8 10, b8 (kb1 n), b8 (kb2 n), b8 (abits u8 (· ^^^ ·) (intV (some (b8 (kb3 n)))) (u8.wrap (1 * 2 ^ min (q % 8).toNat 8))), b8 0, b8 0, b8 0, b8 0, b8 0, b8 0, b8 0, b8 0, b8 0, b8 0, b8 0, b8 0], AV.agg [AV.bool v, b8 192, b8 168, b8 0, b8 1, b8 0, b8 0, b8 0, b8 0, b8 0, b8 0, b8 0, b8 0, b8 0, b8 0, b8 0, b8 0]] (hSegSumsC34 v n a q w d S) (AV.bool false) (hSegSumsC33 v n a q w d S)) = true then
 K (AV.bool true)
 else none) else none) else none) else none) else none) else none) else none) else none) else none) else none) else none))
 else none) else none) else none) else none) else none) else none) else none))
 else none) else none) else none) else none) else none) := by
  kernel_rfl


end Go.Proofs.Ytmlenlfhciapfaa.L
