/- SegReasons' run. -/
import Derived.Test.YtmlenlfhciapfaaSegReasonsN
set_option autoImplicit false
set_option maxRecDepth 100000
set_option linter.unusedVariables false
set_option linter.unusedSimpArgs false
namespace Go.Proofs.Ytmlenlfhciapfaa.L
open Go Go.Abs

def zA : List AV := .bool false :: bys [0, 0, 0, 0, 0, 0, 0, 0, 0, 0, 0, 0, 0, 0, 0, 0]
theorem zA_wf : adrWf zA = true := adrB_wf rfl
theorem goodS_N {p : Int} {l : List UInt8} {cs ds : List AV} (h : segR p l ≠ 0) : goodS p l cs ds = false := by unfold goodS; rw [decide_eq_false (fun g => h g.1)]; rfl

theorem segReasons0 (n k : Int) (a b c x y z : UInt8) (hS : ∀ (h : AHeap) (A : AV) (q : Nat), (bOk h A = true ∧ bOf h A = [97, 98, 99, 100]) → h.length = q → OfR [.agg (keyV false false n), A, .bool false] h (slB q [a, b, 0, 80, 0, 0, 0, 0, 0, 0, 0, 0, 80, 2, 0, 0, c, x, 0, 0, 97, 98, 99, 100]) [ownB [a, b, 0, 80, 0, 0, 0, 0, 0, 0, 0, 0, 80, 2, 0, 0, c, x, 0, 0, 97, 98, 99, 100]])
    (hU : ∀ (h : AHeap) (A : AV) (q : Nat), (bOk h A = true ∧ bOf h A = [97, 98, 99, 100]) → h.length = q → OfR [.agg (keyV false true n), A, .bool false] h (slB q [a, b, 0, 80, 0, 12, y, z, 97, 98, 99, 100]) [ownB [a, b, 0, 80, 0, 12, y, z, 97, 98, 99, 100]]) (hk : k % 9 = 0) :
    ∃ h', Runs Try.prog 5 [.int .i64 n, .int .i64 k] [] (.bool true) h' := by
  have hr : segR 6 ([a, b, 0, 80, 0, 0, 0, 0, 0, 0, 0, 0, 80, 2, 0, 0, c, x, 0, 0, 97, 98, 99, 100]) = 0 := by unfold segR; rw [if_pos rfl, (show byt ([a, b, 0, 80, 0, 0, 0, 0, 0, 0, 0, 0, 80, 2, 0, 0, c, x, 0, 0, 97, 98, 99, 100]) 12 = 80 by show ((80 : UInt8).toNat : Int) = 80; decide), if_neg (by simp), if_neg (by decide), if_neg (by simp)]
  refine Runs.valT0 (tSROk [a, b, 0, 80, 0, 0, 0, 0, 0, 0, 0, 0, 80, 2, 0, 0, c, x, 0, 0, 97, 98, 99, 100] [a, b, 0, 80, 0, 12, y, z, 97, 98, 99, 100] (.tup [.agg [.int .u16 (word ([a, b, 0, 80, 0, 0, 0, 0, 0, 0, 0, 0, 80, 2, 0, 0, c, x, 0, 0, 97, 98, 99, 100]) 0), .int .u16 (word ([a, b, 0, 80, 0, 0, 0, 0, 0, 0, 0, 0, 80, 2, 0, 0, c, x, 0, 0, 97, 98, 99, 100]) 2), .int .u8 (segF 6 ([a, b, 0, 80, 0, 0, 0, 0, 0, 0, 0, 0, 80, 2, 0, 0, c, x, 0, 0, 97, 98, 99, 100]))], .int .i64 0])) (F := 100) (n := 4) (pr := [(30, .int .i64 0)]) ?_
  refine (nfSegReasons0 n k (word ([a, b, 0, 80, 0, 0, 0, 0, 0, 0, 0, 0, 80, 2, 0, 0, c, x, 0, 0, 97, 98, 99, 100]) 0) (word ([a, b, 0, 80, 0, 0, 0, 0, 0, 0, 0, 0, 80, 2, 0, 0, c, x, 0, 0, 97, 98, 99, 100]) 2) (segF 6 ([a, b, 0, 80, 0, 0, 0, 0, 0, 0, 0, 0, 80, 2, 0, 0, c, x, 0, 0, 97, 98, 99, 100])) a b c x y z _).trans ?_
  refine (if_pos (cdec_true.2 (hS _ _ _ (bOk_row rfl rfl rfl) rfl))).trans ?_
  refine (if_pos (cdec_true.2 (hU _ _ _ (bOk_row rfl rfl rfl) rfl))).trans ?_
  refine (if_pos ⟨rfl, hk⟩).trans ?_
  refine (if_pos (cdec_true.2 (saySegR (l := [a, b, 0, 80, 0, 0, 0, 0, 0, 0, 0, 0, 80, 2, 0, 0, c, x, 0, 0, 97, 98, 99, 100]) (bOk_row rfl rfl rfl) (show 24 ≤ 1000000000000 by decide) (segRead_Y hr).1))).trans ?_
  rfl

theorem segReasons1 (n k : Int) (a b c x y z : UInt8) (hS : ∀ (h : AHeap) (A : AV) (q : Nat), (bOk h A = true ∧ bOf h A = [97, 98, 99, 100]) → h.length = q → OfR [.agg (keyV false false n), A, .bool false] h (slB q [a, b, 0, 80, 0, 0, 0, 0, 0, 0, 0, 0, 80, 2, 0, 0, c, x, 0, 0, 97, 98, 99, 100]) [ownB [a, b, 0, 80, 0, 0, 0, 0, 0, 0, 0, 0, 80, 2, 0, 0, c, x, 0, 0, 97, 98, 99, 100]])
    (hU : ∀ (h : AHeap) (A : AV) (q : Nat), (bOk h A = true ∧ bOf h A = [97, 98, 99, 100]) → h.length = q → OfR [.agg (keyV false true n), A, .bool false] h (slB q [a, b, 0, 80, 0, 12, y, z, 97, 98, 99, 100]) [ownB [a, b, 0, 80, 0, 12, y, z, 97, 98, 99, 100]]) (hk : k % 9 = 1) :
    ∃ h', Runs Try.prog 5 [.int .i64 n, .int .i64 k] [] (.bool true) h' := by
  have hr : segR 6 ([a, b, 0, 80, 0, 0, 0, 0, 0, 0, 0, 0, 80, 2, 0, 0, c, x, 0, 0, 97, 98, 99, 100].take 19) = 1 := by unfold segR; rw [if_pos rfl, if_pos (by simp)]
  refine Runs.valT0 (tSROk [a, b, 0, 80, 0, 0, 0, 0, 0, 0, 0, 0, 80, 2, 0, 0, c, x, 0, 0, 97, 98, 99, 100] [a, b, 0, 80, 0, 12, y, z, 97, 98, 99, 100] (.tup [.agg [.int .u16 0, .int .u16 0, .int .u8 0], .int .i64 1])) (F := 100) (n := 4) (pr := [(30, .int .i64 1)]) ?_
  refine (nfSegReasons1 n k 0 0 0 a b c x y z _).trans ?_
  refine (if_pos (cdec_true.2 (hS _ _ _ (bOk_row rfl rfl rfl) rfl))).trans ?_
  refine (if_pos (cdec_true.2 (hU _ _ _ (bOk_row rfl rfl rfl) rfl))).trans ?_
  refine (if_pos ⟨rfl, hk⟩).trans ?_
  refine (if_pos (cdec_true.2 (saySegR (l := [a, b, 0, 80, 0, 0, 0, 0, 0, 0, 0, 0, 80, 2, 0, 0, c, x, 0, 0, 97, 98, 99, 100].take 19) (bOk_cut (l := [a, b, 0, 80, 0, 0, 0, 0, 0, 0, 0, 0, 80, 2, 0, 0, c, x, 0, 0, 97, 98, 99, 100]) rfl rfl (by simp) rfl) (show 19 ≤ 1000000000000 by decide) (segRead_N hr (by decide)).1))).trans ?_
  refine (if_pos (cdec_true.2 (sayPort (cs := zA) (ds := zA) (l := [a, b, 0, 80, 0, 0, 0, 0, 0, 0, 0, 0, 80, 2, 0, 0, c, x, 0, 0, 97, 98, 99, 100].take 19) (bOk_cut (l := [a, b, 0, 80, 0, 0, 0, 0, 0, 0, 0, 0, 80, 2, 0, 0, c, x, 0, 0, 97, 98, 99, 100]) rfl rfl (by simp) rfl) zA_wf zA_wf (show 19 ≤ 1000000000000 by decide) (by decide) (portL_N (.inl (by rw [hr]; decide))) rfl))).trans ?_
  refine (if_pos (cdec_true.2 (sayGoodS (cs := zA) (ds := zA) (l := [a, b, 0, 80, 0, 0, 0, 0, 0, 0, 0, 0, 80, 2, 0, 0, c, x, 0, 0, 97, 98, 99, 100].take 19) (bOk_cut (l := [a, b, 0, 80, 0, 0, 0, 0, 0, 0, 0, 0, 80, 2, 0, 0, c, x, 0, 0, 97, 98, 99, 100]) rfl rfl (by simp) rfl) zA_wf zA_wf (show 19 ≤ 1000000000000 by decide) (by decide) (goodS_N (by rw [hr]; decide))))).trans ?_
  rfl

theorem segReasons2 (n k : Int) (a b c x y z : UInt8) (hS : ∀ (h : AHeap) (A : AV) (q : Nat), (bOk h A = true ∧ bOf h A = [97, 98, 99, 100]) → h.length = q → OfR [.agg (keyV false false n), A, .bool false] h (slB q [a, b, 0, 80, 0, 0, 0, 0, 0, 0, 0, 0, 80, 2, 0, 0, c, x, 0, 0, 97, 98, 99, 100]) [ownB [a, b, 0, 80, 0, 0, 0, 0, 0, 0, 0, 0, 80, 2, 0, 0, c, x, 0, 0, 97, 98, 99, 100]])
    (hU : ∀ (h : AHeap) (A : AV) (q : Nat), (bOk h A = true ∧ bOf h A = [97, 98, 99, 100]) → h.length = q → OfR [.agg (keyV false true n), A, .bool false] h (slB q [a, b, 0, 80, 0, 12, y, z, 97, 98, 99, 100]) [ownB [a, b, 0, 80, 0, 12, y, z, 97, 98, 99, 100]]) (hk : k % 9 = 2) :
    ∃ h', Runs Try.prog 5 [.int .i64 n, .int .i64 k] [] (.bool true) h' := by
  have hr : segR 6 ([a, b, 0, 80, 0, 0, 0, 0, 0, 0, 0, 0, 64, 2, 0, 0, c, x, 0, 0, 97, 98, 99, 100]) = 3 := by unfold segR; rw [if_pos rfl, (show byt ([a, b, 0, 80, 0, 0, 0, 0, 0, 0, 0, 0, 64, 2, 0, 0, c, x, 0, 0, 97, 98, 99, 100]) 12 = 64 by show ((64 : UInt8).toNat : Int) = 64; decide), if_neg (by simp), if_pos (by decide)]
  refine Runs.valT0 (tSROk [a, b, 0, 80, 0, 0, 0, 0, 0, 0, 0, 0, 80, 2, 0, 0, c, x, 0, 0, 97, 98, 99, 100] [a, b, 0, 80, 0, 12, y, z, 97, 98, 99, 100] (.tup [.agg [.int .u16 0, .int .u16 0, .int .u8 0], .int .i64 3])) (F := 100) (n := 4) (pr := [(30, .int .i64 2)]) ?_
  refine (nfSegReasons2 n k 0 0 0 a b c x y z _).trans ?_
  refine (if_pos (cdec_true.2 (hS _ _ _ (bOk_row rfl rfl rfl) rfl))).trans ?_
  refine (if_pos (cdec_true.2 (hU _ _ _ (bOk_row rfl rfl rfl) rfl))).trans ?_
  refine (if_pos ⟨rfl, hk⟩).trans ?_
  refine (if_pos (cdec_true.2 (saySegR (l := [a, b, 0, 80, 0, 0, 0, 0, 0, 0, 0, 0, 64, 2, 0, 0, c, x, 0, 0, 97, 98, 99, 100]) (bOk_row rfl rfl rfl) (show 24 ≤ 1000000000000 by decide) (segRead_N hr (by decide)).1))).trans ?_
  refine (if_pos (cdec_true.2 (sayPort (cs := zA) (ds := zA) (l := [a, b, 0, 80, 0, 0, 0, 0, 0, 0, 0, 0, 64, 2, 0, 0, c, x, 0, 0, 97, 98, 99, 100]) (bOk_row rfl rfl rfl) zA_wf zA_wf (show 24 ≤ 1000000000000 by decide) (by decide) (portL_N (.inl (by rw [hr]; decide))) rfl))).trans ?_
  refine (if_pos (cdec_true.2 (sayGoodS (cs := zA) (ds := zA) (l := [a, b, 0, 80, 0, 0, 0, 0, 0, 0, 0, 0, 64, 2, 0, 0, c, x, 0, 0, 97, 98, 99, 100]) (bOk_row rfl rfl rfl) zA_wf zA_wf (show 24 ≤ 1000000000000 by decide) (by decide) (goodS_N (by rw [hr]; decide))))).trans ?_
  rfl

theorem segReasons3 (n k : Int) (a b c x y z : UInt8) (hS : ∀ (h : AHeap) (A : AV) (q : Nat), (bOk h A = true ∧ bOf h A = [97, 98, 99, 100]) → h.length = q → OfR [.agg (keyV false false n), A, .bool false] h (slB q [a, b, 0, 80, 0, 0, 0, 0, 0, 0, 0, 0, 80, 2, 0, 0, c, x, 0, 0, 97, 98, 99, 100]) [ownB [a, b, 0, 80, 0, 0, 0, 0, 0, 0, 0, 0, 80, 2, 0, 0, c, x, 0, 0, 97, 98, 99, 100]])
    (hU : ∀ (h : AHeap) (A : AV) (q : Nat), (bOk h A = true ∧ bOf h A = [97, 98, 99, 100]) → h.length = q → OfR [.agg (keyV false true n), A, .bool false] h (slB q [a, b, 0, 80, 0, 12, y, z, 97, 98, 99, 100]) [ownB [a, b, 0, 80, 0, 12, y, z, 97, 98, 99, 100]]) (hk : k % 9 = 3) :
    ∃ h', Runs Try.prog 5 [.int .i64 n, .int .i64 k] [] (.bool true) h' := by
  have hr : segR 6 ([a, b, 0, 80, 0, 0, 0, 0, 0, 0, 0, 0, 112, 2, 0, 0, c, x, 0, 0, 97, 98, 99, 100]) = 3 := by unfold segR; rw [if_pos rfl, (show byt ([a, b, 0, 80, 0, 0, 0, 0, 0, 0, 0, 0, 112, 2, 0, 0, c, x, 0, 0, 97, 98, 99, 100]) 12 = 112 by show ((112 : UInt8).toNat : Int) = 112; decide), if_neg (by simp), if_neg (by decide), if_pos (by simp)]
  refine Runs.valT0 (tSROk [a, b, 0, 80, 0, 0, 0, 0, 0, 0, 0, 0, 80, 2, 0, 0, c, x, 0, 0, 97, 98, 99, 100] [a, b, 0, 80, 0, 12, y, z, 97, 98, 99, 100] (.tup [.agg [.int .u16 0, .int .u16 0, .int .u8 0], .int .i64 3])) (F := 100) (n := 4) (pr := [(30, .int .i64 3)]) ?_
  refine (nfSegReasons3 n k 0 0 0 a b c x y z _).trans ?_
  refine (if_pos (cdec_true.2 (hS _ _ _ (bOk_row rfl rfl rfl) rfl))).trans ?_
  refine (if_pos (cdec_true.2 (hU _ _ _ (bOk_row rfl rfl rfl) rfl))).trans ?_
  refine (if_pos ⟨rfl, hk⟩).trans ?_
  refine (if_pos (cdec_true.2 (saySegR (l := [a, b, 0, 80, 0, 0, 0, 0, 0, 0, 0, 0, 112, 2, 0, 0, c, x, 0, 0, 97, 98, 99, 100]) (bOk_row rfl rfl rfl) (show 24 ≤ 1000000000000 by decide) (segRead_N hr (by decide)).1))).trans ?_
  refine (if_pos (cdec_true.2 (sayPort (cs := zA) (ds := zA) (l := [a, b, 0, 80, 0, 0, 0, 0, 0, 0, 0, 0, 112, 2, 0, 0, c, x, 0, 0, 97, 98, 99, 100]) (bOk_row rfl rfl rfl) zA_wf zA_wf (show 24 ≤ 1000000000000 by decide) (by decide) (portL_N (.inl (by rw [hr]; decide))) rfl))).trans ?_
  refine (if_pos (cdec_true.2 (sayGoodS (cs := zA) (ds := zA) (l := [a, b, 0, 80, 0, 0, 0, 0, 0, 0, 0, 0, 112, 2, 0, 0, c, x, 0, 0, 97, 98, 99, 100]) (bOk_row rfl rfl rfl) zA_wf zA_wf (show 24 ≤ 1000000000000 by decide) (by decide) (goodS_N (by rw [hr]; decide))))).trans ?_
  rfl

theorem segReasons4 (n k : Int) (a b c x y z : UInt8) (hS : ∀ (h : AHeap) (A : AV) (q : Nat), (bOk h A = true ∧ bOf h A = [97, 98, 99, 100]) → h.length = q → OfR [.agg (keyV false false n), A, .bool false] h (slB q [a, b, 0, 80, 0, 0, 0, 0, 0, 0, 0, 0, 80, 2, 0, 0, c, x, 0, 0, 97, 98, 99, 100]) [ownB [a, b, 0, 80, 0, 0, 0, 0, 0, 0, 0, 0, 80, 2, 0, 0, c, x, 0, 0, 97, 98, 99, 100]])
    (hU : ∀ (h : AHeap) (A : AV) (q : Nat), (bOk h A = true ∧ bOf h A = [97, 98, 99, 100]) → h.length = q → OfR [.agg (keyV false true n), A, .bool false] h (slB q [a, b, 0, 80, 0, 12, y, z, 97, 98, 99, 100]) [ownB [a, b, 0, 80, 0, 12, y, z, 97, 98, 99, 100]]) (hk : k % 9 = 4) :
    ∃ h', Runs Try.prog 5 [.int .i64 n, .int .i64 k] [] (.bool true) h' := by
  have hr : segR 6 ([a, b, 0, 80, 0, 0, 0, 0, 0, 0, 0, 0, 96, 2, 0, 0, c, x, 0, 0, 97, 98, 99, 100]) = 0 := by unfold segR; rw [if_pos rfl, (show byt ([a, b, 0, 80, 0, 0, 0, 0, 0, 0, 0, 0, 96, 2, 0, 0, c, x, 0, 0, 97, 98, 99, 100]) 12 = 96 by show ((96 : UInt8).toNat : Int) = 96; decide), if_neg (by simp), if_neg (by decide), if_neg (by simp)]
  refine Runs.valT0 (tSROk [a, b, 0, 80, 0, 0, 0, 0, 0, 0, 0, 0, 80, 2, 0, 0, c, x, 0, 0, 97, 98, 99, 100] [a, b, 0, 80, 0, 12, y, z, 97, 98, 99, 100] (.tup [.agg [.int .u16 (word ([a, b, 0, 80, 0, 0, 0, 0, 0, 0, 0, 0, 96, 2, 0, 0, c, x, 0, 0, 97, 98, 99, 100]) 0), .int .u16 (word ([a, b, 0, 80, 0, 0, 0, 0, 0, 0, 0, 0, 96, 2, 0, 0, c, x, 0, 0, 97, 98, 99, 100]) 2), .int .u8 (segF 6 ([a, b, 0, 80, 0, 0, 0, 0, 0, 0, 0, 0, 96, 2, 0, 0, c, x, 0, 0, 97, 98, 99, 100]))], .int .i64 0])) (F := 100) (n := 4) (pr := [(30, .int .i64 4)]) ?_
  refine (nfSegReasons4 n k (word ([a, b, 0, 80, 0, 0, 0, 0, 0, 0, 0, 0, 96, 2, 0, 0, c, x, 0, 0, 97, 98, 99, 100]) 0) (word ([a, b, 0, 80, 0, 0, 0, 0, 0, 0, 0, 0, 96, 2, 0, 0, c, x, 0, 0, 97, 98, 99, 100]) 2) (segF 6 ([a, b, 0, 80, 0, 0, 0, 0, 0, 0, 0, 0, 96, 2, 0, 0, c, x, 0, 0, 97, 98, 99, 100])) a b c x y z _).trans ?_
  refine (if_pos (cdec_true.2 (hS _ _ _ (bOk_row rfl rfl rfl) rfl))).trans ?_
  refine (if_pos (cdec_true.2 (hU _ _ _ (bOk_row rfl rfl rfl) rfl))).trans ?_
  refine (if_pos ⟨rfl, hk⟩).trans ?_
  refine (if_pos (cdec_true.2 (saySegR (l := [a, b, 0, 80, 0, 0, 0, 0, 0, 0, 0, 0, 96, 2, 0, 0, c, x, 0, 0, 97, 98, 99, 100]) (bOk_row rfl rfl rfl) (show 24 ≤ 1000000000000 by decide) (segRead_Y hr).1))).trans ?_
  rfl

theorem segReasons5 (n k : Int) (a b c x y z : UInt8) (hS : ∀ (h : AHeap) (A : AV) (q : Nat), (bOk h A = true ∧ bOf h A = [97, 98, 99, 100]) → h.length = q → OfR [.agg (keyV false false n), A, .bool false] h (slB q [a, b, 0, 80, 0, 0, 0, 0, 0, 0, 0, 0, 80, 2, 0, 0, c, x, 0, 0, 97, 98, 99, 100]) [ownB [a, b, 0, 80, 0, 0, 0, 0, 0, 0, 0, 0, 80, 2, 0, 0, c, x, 0, 0, 97, 98, 99, 100]])
    (hU : ∀ (h : AHeap) (A : AV) (q : Nat), (bOk h A = true ∧ bOf h A = [97, 98, 99, 100]) → h.length = q → OfR [.agg (keyV false true n), A, .bool false] h (slB q [a, b, 0, 80, 0, 12, y, z, 97, 98, 99, 100]) [ownB [a, b, 0, 80, 0, 12, y, z, 97, 98, 99, 100]]) (hk : k % 9 = 5) :
    ∃ h', Runs Try.prog 5 [.int .i64 n, .int .i64 k] [] (.bool true) h' := by
  have hr : segR 17 ([a, b, 0, 80, 0, 12, y, z, 97, 98, 99, 100].take 7) = 1 := by unfold segR; rw [if_neg (by decide), if_pos rfl, if_pos (by simp)]
  refine Runs.valT0 (tSROk [a, b, 0, 80, 0, 0, 0, 0, 0, 0, 0, 0, 80, 2, 0, 0, c, x, 0, 0, 97, 98, 99, 100] [a, b, 0, 80, 0, 12, y, z, 97, 98, 99, 100] (.tup [.agg [.int .u16 0, .int .u16 0, .int .u8 0], .int .i64 1])) (F := 100) (n := 4) (pr := [(30, .int .i64 5)]) ?_
  refine (nfSegReasons5 n k 0 0 0 a b c x y z _).trans ?_
  refine (if_pos (cdec_true.2 (hS _ _ _ (bOk_row rfl rfl rfl) rfl))).trans ?_
  refine (if_pos (cdec_true.2 (hU _ _ _ (bOk_row rfl rfl rfl) rfl))).trans ?_
  refine (if_pos ⟨rfl, hk⟩).trans ?_
  refine (if_pos (cdec_true.2 (saySegR (l := [a, b, 0, 80, 0, 12, y, z, 97, 98, 99, 100].take 7) (bOk_cut (l := [a, b, 0, 80, 0, 12, y, z, 97, 98, 99, 100]) rfl rfl (by simp) rfl) (show 7 ≤ 1000000000000 by decide) (segRead_N hr (by decide)).1))).trans ?_
  refine (if_pos (cdec_true.2 (sayPort (cs := zA) (ds := zA) (l := [a, b, 0, 80, 0, 12, y, z, 97, 98, 99, 100].take 7) (bOk_cut (l := [a, b, 0, 80, 0, 12, y, z, 97, 98, 99, 100]) rfl rfl (by simp) rfl) zA_wf zA_wf (show 7 ≤ 1000000000000 by decide) (by decide) (portL_N (.inl (by rw [hr]; decide))) rfl))).trans ?_
  refine (if_pos (cdec_true.2 (sayGoodS (cs := zA) (ds := zA) (l := [a, b, 0, 80, 0, 12, y, z, 97, 98, 99, 100].take 7) (bOk_cut (l := [a, b, 0, 80, 0, 12, y, z, 97, 98, 99, 100]) rfl rfl (by simp) rfl) zA_wf zA_wf (show 7 ≤ 1000000000000 by decide) (by decide) (goodS_N (by rw [hr]; decide))))).trans ?_
  rfl

theorem segReasons6 (n k : Int) (a b c x y z : UInt8) (hS : ∀ (h : AHeap) (A : AV) (q : Nat), (bOk h A = true ∧ bOf h A = [97, 98, 99, 100]) → h.length = q → OfR [.agg (keyV false false n), A, .bool false] h (slB q [a, b, 0, 80, 0, 0, 0, 0, 0, 0, 0, 0, 80, 2, 0, 0, c, x, 0, 0, 97, 98, 99, 100]) [ownB [a, b, 0, 80, 0, 0, 0, 0, 0, 0, 0, 0, 80, 2, 0, 0, c, x, 0, 0, 97, 98, 99, 100]])
    (hU : ∀ (h : AHeap) (A : AV) (q : Nat), (bOk h A = true ∧ bOf h A = [97, 98, 99, 100]) → h.length = q → OfR [.agg (keyV false true n), A, .bool false] h (slB q [a, b, 0, 80, 0, 12, y, z, 97, 98, 99, 100]) [ownB [a, b, 0, 80, 0, 12, y, z, 97, 98, 99, 100]]) (hk : k % 9 = 6) :
    ∃ h', Runs Try.prog 5 [.int .i64 n, .int .i64 k] [] (.bool true) h' := by
  have hr : segR 17 ([a, b, 0, 80, 0, 7, y, z, 97, 98, 99, 100]) = 3 := by unfold segR; rw [if_neg (by decide), if_pos rfl, (show word ([a, b, 0, 80, 0, 7, y, z, 97, 98, 99, 100]) 4 = 7 by show ((0 : UInt8).toNat : Int) * 256 + ((7 : UInt8).toNat : Int) = 7; decide), if_neg (by simp), if_pos (by decide)]
  refine Runs.valT0 (tSROk [a, b, 0, 80, 0, 0, 0, 0, 0, 0, 0, 0, 80, 2, 0, 0, c, x, 0, 0, 97, 98, 99, 100] [a, b, 0, 80, 0, 12, y, z, 97, 98, 99, 100] (.tup [.agg [.int .u16 0, .int .u16 0, .int .u8 0], .int .i64 3])) (F := 100) (n := 4) (pr := [(30, .int .i64 6)]) ?_
  refine (nfSegReasons6 n k 0 0 0 a b c x y z _).trans ?_
  refine (if_pos (cdec_true.2 (hS _ _ _ (bOk_row rfl rfl rfl) rfl))).trans ?_
  refine (if_pos (cdec_true.2 (hU _ _ _ (bOk_row rfl rfl rfl) rfl))).trans ?_
  refine (if_pos ⟨rfl, hk⟩).trans ?_
  refine (if_pos (cdec_true.2 (saySegR (l := [a, b, 0, 80, 0, 7, y, z, 97, 98, 99, 100]) (bOk_row rfl rfl rfl) (show 12 ≤ 1000000000000 by decide) (segRead_N hr (by decide)).1))).trans ?_
  refine (if_pos (cdec_true.2 (sayPort (cs := zA) (ds := zA) (l := [a, b, 0, 80, 0, 7, y, z, 97, 98, 99, 100]) (bOk_row rfl rfl rfl) zA_wf zA_wf (show 12 ≤ 1000000000000 by decide) (by decide) (portL_N (.inl (by rw [hr]; decide))) rfl))).trans ?_
  refine (if_pos (cdec_true.2 (sayGoodS (cs := zA) (ds := zA) (l := [a, b, 0, 80, 0, 7, y, z, 97, 98, 99, 100]) (bOk_row rfl rfl rfl) zA_wf zA_wf (show 12 ≤ 1000000000000 by decide) (by decide) (goodS_N (by rw [hr]; decide))))).trans ?_
  rfl

theorem segReasons7 (n k : Int) (a b c x y z : UInt8) (hS : ∀ (h : AHeap) (A : AV) (q : Nat), (bOk h A = true ∧ bOf h A = [97, 98, 99, 100]) → h.length = q → OfR [.agg (keyV false false n), A, .bool false] h (slB q [a, b, 0, 80, 0, 0, 0, 0, 0, 0, 0, 0, 80, 2, 0, 0, c, x, 0, 0, 97, 98, 99, 100]) [ownB [a, b, 0, 80, 0, 0, 0, 0, 0, 0, 0, 0, 80, 2, 0, 0, c, x, 0, 0, 97, 98, 99, 100]])
    (hU : ∀ (h : AHeap) (A : AV) (q : Nat), (bOk h A = true ∧ bOf h A = [97, 98, 99, 100]) → h.length = q → OfR [.agg (keyV false true n), A, .bool false] h (slB q [a, b, 0, 80, 0, 12, y, z, 97, 98, 99, 100]) [ownB [a, b, 0, 80, 0, 12, y, z, 97, 98, 99, 100]]) (hk : k % 9 = 7) :
    ∃ h', Runs Try.prog 5 [.int .i64 n, .int .i64 k] [] (.bool true) h' := by
  have hr : segR 17 ([a, b, 0, 80, 0, 13, y, z, 97, 98, 99, 100]) = 3 := by unfold segR; rw [if_neg (by decide), if_pos rfl, (show word ([a, b, 0, 80, 0, 13, y, z, 97, 98, 99, 100]) 4 = 13 by show ((0 : UInt8).toNat : Int) * 256 + ((13 : UInt8).toNat : Int) = 13; decide), if_neg (by simp), if_neg (by decide), if_pos (by simp)]
  refine Runs.valT0 (tSROk [a, b, 0, 80, 0, 0, 0, 0, 0, 0, 0, 0, 80, 2, 0, 0, c, x, 0, 0, 97, 98, 99, 100] [a, b, 0, 80, 0, 12, y, z, 97, 98, 99, 100] (.tup [.agg [.int .u16 0, .int .u16 0, .int .u8 0], .int .i64 3])) (F := 100) (n := 4) (pr := [(30, .int .i64 7)]) ?_
  refine (nfSegReasons7 n k 0 0 0 a b c x y z _).trans ?_
  refine (if_pos (cdec_true.2 (hS _ _ _ (bOk_row rfl rfl rfl) rfl))).trans ?_
  refine (if_pos (cdec_true.2 (hU _ _ _ (bOk_row rfl rfl rfl) rfl))).trans ?_
  refine (if_pos ⟨rfl, hk⟩).trans ?_
  refine (if_pos (cdec_true.2 (saySegR (l := [a, b, 0, 80, 0, 13, y, z, 97, 98, 99, 100]) (bOk_row rfl rfl rfl) (show 12 ≤ 1000000000000 by decide) (segRead_N hr (by decide)).1))).trans ?_
  refine (if_pos (cdec_true.2 (sayPort (cs := zA) (ds := zA) (l := [a, b, 0, 80, 0, 13, y, z, 97, 98, 99, 100]) (bOk_row rfl rfl rfl) zA_wf zA_wf (show 12 ≤ 1000000000000 by decide) (by decide) (portL_N (.inl (by rw [hr]; decide))) rfl))).trans ?_
  refine (if_pos (cdec_true.2 (sayGoodS (cs := zA) (ds := zA) (l := [a, b, 0, 80, 0, 13, y, z, 97, 98, 99, 100]) (bOk_row rfl rfl rfl) zA_wf zA_wf (show 12 ≤ 1000000000000 by decide) (by decide) (goodS_N (by rw [hr]; decide))))).trans ?_
  rfl

theorem segReasons8 (n k : Int) (a b c x y z : UInt8) (hS : ∀ (h : AHeap) (A : AV) (q : Nat), (bOk h A = true ∧ bOf h A = [97, 98, 99, 100]) → h.length = q → OfR [.agg (keyV false false n), A, .bool false] h (slB q [a, b, 0, 80, 0, 0, 0, 0, 0, 0, 0, 0, 80, 2, 0, 0, c, x, 0, 0, 97, 98, 99, 100]) [ownB [a, b, 0, 80, 0, 0, 0, 0, 0, 0, 0, 0, 80, 2, 0, 0, c, x, 0, 0, 97, 98, 99, 100]])
    (hU : ∀ (h : AHeap) (A : AV) (q : Nat), (bOk h A = true ∧ bOf h A = [97, 98, 99, 100]) → h.length = q → OfR [.agg (keyV false true n), A, .bool false] h (slB q [a, b, 0, 80, 0, 12, y, z, 97, 98, 99, 100]) [ownB [a, b, 0, 80, 0, 12, y, z, 97, 98, 99, 100]]) (hk : k % 9 = 8) :
    ∃ h', Runs Try.prog 5 [.int .i64 n, .int .i64 k] [] (.bool true) h' := by
  have hr : segR 7 ([a, b, 0, 80, 0, 0, 0, 0, 0, 0, 0, 0, 80, 2, 0, 0, c, x, 0, 0, 97, 98, 99, 100]) = 6 := by unfold segR; rw [if_neg (by decide), if_neg (by decide)]
  refine Runs.valT0 (tSROk [a, b, 0, 80, 0, 0, 0, 0, 0, 0, 0, 0, 80, 2, 0, 0, c, x, 0, 0, 97, 98, 99, 100] [a, b, 0, 80, 0, 12, y, z, 97, 98, 99, 100] (.tup [.agg [.int .u16 0, .int .u16 0, .int .u8 0], .int .i64 6])) (F := 100) (n := 4) (pr := [(30, .int .i64 8)]) ?_
  refine (nfSegReasons8 n k 0 0 0 a b c x y z _).trans ?_
  refine (if_pos (cdec_true.2 (hS _ _ _ (bOk_row rfl rfl rfl) rfl))).trans ?_
  refine (if_pos (cdec_true.2 (hU _ _ _ (bOk_row rfl rfl rfl) rfl))).trans ?_
  refine (if_pos ⟨rfl, hk⟩).trans ?_
  refine (if_pos (cdec_true.2 (saySegR (l := [a, b, 0, 80, 0, 0, 0, 0, 0, 0, 0, 0, 80, 2, 0, 0, c, x, 0, 0, 97, 98, 99, 100]) (bOk_row rfl rfl rfl) (show 24 ≤ 1000000000000 by decide) (segRead_N hr (by decide)).1))).trans ?_
  refine (if_pos (cdec_true.2 (sayPort (cs := zA) (ds := zA) (l := [a, b, 0, 80, 0, 0, 0, 0, 0, 0, 0, 0, 80, 2, 0, 0, c, x, 0, 0, 97, 98, 99, 100]) (bOk_row rfl rfl rfl) zA_wf zA_wf (show 24 ≤ 1000000000000 by decide) (by decide) (portL_N (.inl (by rw [hr]; decide))) rfl))).trans ?_
  refine (if_pos (cdec_true.2 (sayGoodS (cs := zA) (ds := zA) (l := [a, b, 0, 80, 0, 0, 0, 0, 0, 0, 0, 0, 80, 2, 0, 0, c, x, 0, 0, 97, 98, 99, 100]) (bOk_row rfl rfl rfl) zA_wf zA_wf (show 24 ≤ 1000000000000 by decide) (by decide) (goodS_N (by rw [hr]; decide))))).trans ?_
  rfl

theorem runSegReasons (n k : Int) (hn : -9223372036854775808 ≤ n ∧ n < 9223372036854775808) (hk : -9223372036854775808 ≤ k ∧ k < 9223372036854775808) : ∃ h', Runs Try.prog 5 [.int .i64 n, .int .i64 k] [] (.bool true) h' := by
  have hS : ∃ a b c x : UInt8, a = u8i (kport n / 256) ∧ b = u8i (kport n) ∧ bldG false false false n 2 [97, 98, 99, 100] = [a, b, 0, 80, 0, 0, 0, 0, 0, 0, 0, 0, 80, 2, 0, 0, c, x, 0, 0, 97, 98, 99, 100] := ⟨_, _, _, _, rfl, rfl, rfl⟩
  obtain ⟨a, b, c, x, ea, eb, eS⟩ := hS
  have hU : ∃ y z : UInt8, bldG false true false n 2 [97, 98, 99, 100] = [a, b, 0, 80, 0, 12, y, z, 97, 98, 99, 100] := by rw [ea, eb]; exact ⟨_, _, rfl⟩
  obtain ⟨y, z, eU⟩ := hU
  have gS : ∀ (h : AHeap) (A : AV) (q : Nat), (bOk h A = true ∧ bOf h A = [97, 98, 99, 100]) → h.length = q → OfR [.agg (keyV false false n), A, .bool false] h (slB q [a, b, 0, 80, 0, 0, 0, 0, 0, 0, 0, 0, 80, 2, 0, 0, c, x, 0, 0, 97, 98, 99, 100]) [ownB [a, b, 0, 80, 0, 0, 0, 0, 0, 0, 0, 0, 80, 2, 0, 0, c, x, 0, 0, 97, 98, 99, 100]] := fun h A q g hq => by rw [← eS]; exact OfR.mk false false false n _ h A q g (by simp) hq
  have gU : ∀ (h : AHeap) (A : AV) (q : Nat), (bOk h A = true ∧ bOf h A = [97, 98, 99, 100]) → h.length = q → OfR [.agg (keyV false true n), A, .bool false] h (slB q [a, b, 0, 80, 0, 12, y, z, 97, 98, 99, 100]) [ownB [a, b, 0, 80, 0, 12, y, z, 97, 98, 99, 100]] := fun h A q g hq => by rw [← eU]; exact OfR.mk false true false n _ h A q g (by simp) hq
  have : k % 9 = 0 ∨ k % 9 = 1 ∨ k % 9 = 2 ∨ k % 9 = 3 ∨ k % 9 = 4 ∨ k % 9 = 5 ∨ k % 9 = 6 ∨ k % 9 = 7 ∨ k % 9 = 8 := by omega
  rcases this with h | h | h | h | h | h | h | h | h
  · exact segReasons0 n k a b c x y z gS gU h
  · exact segReasons1 n k a b c x y z gS gU h
  · exact segReasons2 n k a b c x y z gS gU h
  · exact segReasons3 n k a b c x y z gS gU h
  · exact segReasons4 n k a b c x y z gS gU h
  · exact segReasons5 n k a b c x y z gS gU h
  · exact segReasons6 n k a b c x y z gS gU h
  · exact segReasons7 n k a b c x y z gS gU h
  · exact segReasons8 n k a b c x y z gS gU h

end Go.Proofs.Ytmlenlfhciapfaa.L
