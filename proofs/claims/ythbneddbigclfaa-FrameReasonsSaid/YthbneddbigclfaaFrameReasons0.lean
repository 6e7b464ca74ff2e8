/- FrameReasons' run. -/
import Derived.Test.YthbneddbigclfaaFrameReasonsN
import Derived.Test.YthbneddbigclfaaFrsKit
set_option autoImplicit false
set_option maxRecDepth 100000
set_option linter.unusedVariables false
set_option linter.unusedSimpArgs false
namespace Go.Proofs.Ythbneddbigclfaa.L
open Go Go.Abs

theorem fr0Run (n k : Int) (F : List UInt8) (hF : FrF F) (hv0 : vRead F = .tup [.agg (viewOf false 14 34 57 6 (kSrc false n) (kDst false) (kport n) 80 0), .int .i64 0])
    (hB : ∀ (h : AHeap) (a : AV) (q : Nat), (bOk h a = true ∧ bOf h a = [97, 98, 99]) → h.length = q → BuildR0 [.agg (keyV false false n), .int .u8 0, a, .bool false, .bool false, .int .i64 0] h (slB q F) [ownB F]) (hk : k % 9 = 0) :
    ∃ h', Runs Try.prog 7 [.int .i64 n, .int .i64 k] [] (.bool true) h' := by
  have hl := hF.len
  have vN := hv0
  refine Runs.valT0 (tFROk F (.tup [.agg (viewOf false 14 34 57 6 (kSrc false n) (kDst false) (kport n) 80 0), .int .i64 0]) false) (F := 100) (n := 4) (pr := [(15, .int .i64 0), (75, .bool true), (78, .bool true), (89, .bool true)]) ?_
  refine (nfFR0 n k 14 34 57 F _).trans ?_
  refine (if_pos (cdec_true.2 (hB _ _ _ (bOk_row rfl rfl rfl) rfl))).trans ?_
  refine (if_pos (⟨rfl, hk⟩)).trans ?_
  refine (if_pos (cdec_true.2 (sayRead (bOk_row rfl rfl rfl) (by show F.length ≤ _; omega) vN))).trans ?_
  rfl

theorem fr1Run (n k : Int) (F : List UInt8) (hF : FrF F) (hv0 : vRead F = .tup [.agg (viewOf false 14 34 57 6 (kSrc false n) (kDst false) (kport n) 80 0), .int .i64 0])
    (hB : ∀ (h : AHeap) (a : AV) (q : Nat), (bOk h a = true ∧ bOf h a = [97, 98, 99]) → h.length = q → BuildR0 [.agg (keyV false false n), .int .u8 0, a, .bool false, .bool false, .int .i64 0] h (slB q F) [ownB F]) (hk : k % 9 = 1) :
    ∃ h', Runs Try.prog 7 [.int .i64 n, .int .i64 k] [] (.bool true) h' := by
  have hl := hF.len
  have hcell : putCells (putCells (bys F) 12 [AV.int IntKind.u8 8]) 13 [AV.int IntKind.u8 6] = bys ((F.set 12 8).set 13 6) := by rw [putCells_byte' _ _ 8 (by decide), putCells_byte' _ _ 6 (by decide)]; rfl
  have rN : readR ((F.set 12 8).set 13 6) = 2 := fr1 hF
  have vN : vRead ((F.set 12 8).set 13 6) = (.tup [.agg view0, .int .i64 2]) := vRead_N rN (by decide)
  have gN : goodF ((F.set 12 8).set 13 6) = false := goodF_N (by rw [rN]; decide)
  refine Runs.valT0 (tFROk F (.tup [.agg view0, .int .i64 2]) false) (F := 100) (n := 4) (pr := [(15, .int .i64 1), (75, .bool true), (78, .bool false), (82, .bool true), (89, .bool true)]) ?_
  refine (nfFR1 n k 0 0 0 F _).trans ?_
  refine (if_pos (cdec_true.2 (hB _ _ _ (bOk_row rfl rfl rfl) rfl))).trans ?_
  refine (if_pos (⟨rfl, hk⟩)).trans ?_
  refine (if_pos (⟨by decide, by omega⟩)).trans ?_
  refine (if_pos (⟨by simp; omega, rfl⟩)).trans ?_
  refine (if_pos (⟨by decide, by omega⟩)).trans ?_
  refine (if_pos (⟨by simp; omega, rfl⟩)).trans ?_
  refine (if_pos (cdec_true.2 (sayRead (bOk_row (l := ((F.set 12 8).set 13 6)) rfl hcell (by simp)) (by show F.length ≤ _; omega) vN))).trans ?_
  refine (if_pos (cdec_true.2 (sayGood (bOk_row (l := ((F.set 12 8).set 13 6)) rfl hcell (by simp)) (by show F.length ≤ _; omega) gN))).trans ?_
  rfl

theorem fr2Run (n k : Int) (F : List UInt8) (hF : FrF F) (hv0 : vRead F = .tup [.agg (viewOf false 14 34 57 6 (kSrc false n) (kDst false) (kport n) 80 0), .int .i64 0])
    (hB : ∀ (h : AHeap) (a : AV) (q : Nat), (bOk h a = true ∧ bOf h a = [97, 98, 99]) → h.length = q → BuildR0 [.agg (keyV false false n), .int .u8 0, a, .bool false, .bool false, .int .i64 0] h (slB q F) [ownB F]) (hk : k % 9 = 2) :
    ∃ h', Runs Try.prog 7 [.int .i64 n, .int .i64 k] [] (.bool true) h' := by
  have hl := hF.len
  have rN : readR (F.take 13) = 1 := fr2 hF
  have vN : vRead (F.take 13) = (.tup [.agg view0, .int .i64 1]) := vRead_N rN (by decide)
  have gN : goodF (F.take 13) = false := goodF_N (by rw [rN]; decide)
  refine Runs.valT0 (tFROk F (.tup [.agg view0, .int .i64 1]) false) (F := 100) (n := 4) (pr := [(15, .int .i64 2), (75, .bool true), (78, .bool false), (82, .bool true), (89, .bool true)]) ?_
  refine (nfFR2 n k 0 0 0 F _).trans ?_
  refine (if_pos (cdec_true.2 (hB _ _ _ (bOk_row rfl rfl rfl) rfl))).trans ?_
  refine (if_pos (⟨rfl, hk⟩)).trans ?_
  refine (if_pos (⟨by decide, by simp only [capOf_f]; omega⟩)).trans ?_
  refine (if_pos (cdec_true.2 (sayRead (bOk_cut (l := F) (L := (F.take 13)) rfl rfl (by simp; omega) (by simp)) (by show 13 ≤ 1000000000000; decide) vN))).trans ?_
  refine (if_pos (cdec_true.2 (sayGood (bOk_cut (l := F) (L := (F.take 13)) rfl rfl (by simp; omega) (by simp)) (by show 13 ≤ 1000000000000; decide) gN))).trans ?_
  rfl

theorem fr3Run (n k : Int) (F : List UInt8) (hF : FrF F) (hv0 : vRead F = .tup [.agg (viewOf false 14 34 57 6 (kSrc false n) (kDst false) (kport n) 80 0), .int .i64 0])
    (hB : ∀ (h : AHeap) (a : AV) (q : Nat), (bOk h a = true ∧ bOf h a = [97, 98, 99]) → h.length = q → BuildR0 [.agg (keyV false false n), .int .u8 0, a, .bool false, .bool false, .int .i64 0] h (slB q F) [ownB F]) (hk : k % 9 = 3) :
    ∃ h', Runs Try.prog 7 [.int .i64 n, .int .i64 k] [] (.bool true) h' := by
  have hl := hF.len
  have hcell : putCells (bys F) 14 [AV.int IntKind.u8 101] = bys (F.set 14 101) := by rw [putCells_byte' _ _ 101 (by decide)]; rfl
  have rN : readR (F.set 14 101) = 3 := fr3 hF
  have vN : vRead (F.set 14 101) = (.tup [.agg view0, .int .i64 3]) := vRead_N rN (by decide)
  have gN : goodF (F.set 14 101) = false := goodF_N (by rw [rN]; decide)
  refine Runs.valT0 (tFROk F (.tup [.agg view0, .int .i64 3]) false) (F := 100) (n := 4) (pr := [(15, .int .i64 3), (75, .bool true), (78, .bool false), (82, .bool true), (89, .bool true)]) ?_
  refine (nfFR3 n k 0 0 0 F _).trans ?_
  refine (if_pos (cdec_true.2 (hB _ _ _ (bOk_row rfl rfl rfl) rfl))).trans ?_
  refine (if_pos (⟨rfl, hk⟩)).trans ?_
  refine (if_pos (⟨by decide, by omega⟩)).trans ?_
  refine (if_pos (⟨by simp; omega, rfl⟩)).trans ?_
  refine (if_pos (cdec_true.2 (sayRead (bOk_row (l := (F.set 14 101)) rfl hcell (by simp)) (by show F.length ≤ _; omega) vN))).trans ?_
  refine (if_pos (cdec_true.2 (sayGood (bOk_row (l := (F.set 14 101)) rfl hcell (by simp)) (by show F.length ≤ _; omega) gN))).trans ?_
  rfl

theorem fr4Run (n k : Int) (F : List UInt8) (hF : FrF F) (hv0 : vRead F = .tup [.agg (viewOf false 14 34 57 6 (kSrc false n) (kDst false) (kport n) 80 0), .int .i64 0])
    (hB : ∀ (h : AHeap) (a : AV) (q : Nat), (bOk h a = true ∧ bOf h a = [97, 98, 99]) → h.length = q → BuildR0 [.agg (keyV false false n), .int .u8 0, a, .bool false, .bool false, .int .i64 0] h (slB q F) [ownB F]) (hk : k % 9 = 4) :
    ∃ h', Runs Try.prog 7 [.int .i64 n, .int .i64 k] [] (.bool true) h' := by
  have hl := hF.len
  have h24 : intV (bys F)[24]? = byt F 24 := by simp
  have hxr : 0 ≤ abits .u8 (· ^^^ ·) (byt F 24) 1 ∧ abits .u8 (· ^^^ ·) (byt F 24) 1 < 256 := by
    obtain ⟨d, e, hd, _⟩ := flip_byte (q := 0) (byt_range F 24) (by decide)
    have e2 : abits .u8 (· ^^^ ·) (byt F 24) 1 = byt F 24 + d := e
    rw [e2]; exact hd
  have hcell : putCells (bys F) 24 [AV.int IntKind.u8 (abits IntKind.u8 (· ^^^ ·) (intV (bys F)[24]?) 1)] = bys (F.set 24 (u8i (abits .u8 (· ^^^ ·) (byt F 24) 1))) := by rw [h24, putCells_byte' _ _ _ hxr]
  have rN : readR (F.set 24 (u8i (abits .u8 (· ^^^ ·) (byt F 24) 1))) = 4 := fr4 hF rfl
  have vN : vRead (F.set 24 (u8i (abits .u8 (· ^^^ ·) (byt F 24) 1))) = (.tup [.agg view0, .int .i64 4]) := vRead_N rN (by decide)
  have gN : goodF (F.set 24 (u8i (abits .u8 (· ^^^ ·) (byt F 24) 1))) = false := goodF_N (by rw [rN]; decide)
  refine Runs.valT0 (tFROk F (.tup [.agg view0, .int .i64 4]) false) (F := 100) (n := 4) (pr := [(15, .int .i64 4), (75, .bool true), (78, .bool false), (82, .bool true), (89, .bool true)]) ?_
  refine (nfFR4 n k 0 0 0 F _).trans ?_
  refine (if_pos (cdec_true.2 (hB _ _ _ (bOk_row rfl rfl rfl) rfl))).trans ?_
  refine (if_pos (⟨rfl, hk⟩)).trans ?_
  refine (if_pos (⟨by decide, by omega⟩)).trans ?_
  refine (if_pos (by simp; omega)).trans ?_
  refine (if_pos (⟨by decide, by omega⟩)).trans ?_
  refine (if_pos (⟨by simp; omega, rfl⟩)).trans ?_
  refine (if_pos (cdec_true.2 (sayRead (bOk_row (l := (F.set 24 (u8i (abits .u8 (· ^^^ ·) (byt F 24) 1)))) rfl hcell (by simp)) (by show F.length ≤ _; omega) vN))).trans ?_
  refine (if_pos (cdec_true.2 (sayGood (bOk_row (l := (F.set 24 (u8i (abits .u8 (· ^^^ ·) (byt F 24) 1)))) rfl hcell (by simp)) (by show F.length ≤ _; omega) gN))).trans ?_
  rfl

theorem fr5Run (n k : Int) (F : List UInt8) (hF : FrF F) (hv0 : vRead F = .tup [.agg (viewOf false 14 34 57 6 (kSrc false n) (kDst false) (kport n) 80 0), .int .i64 0])
    (hB : ∀ (h : AHeap) (a : AV) (q : Nat), (bOk h a = true ∧ bOf h a = [97, 98, 99]) → h.length = q → BuildR0 [.agg (keyV false false n), .int .u8 0, a, .bool false, .bool false, .int .i64 0] h (slB q F) [ownB F]) (hk : k % 9 = 5) :
    ∃ h', Runs Try.prog 7 [.int .i64 n, .int .i64 k] [] (.bool true) h' := by
  have hl := hF.len
  have hcell : putCells (bys F) 46 [AV.int IntKind.u8 64] = bys (F.set 46 64) := by rw [putCells_byte' _ _ 64 (by decide)]; rfl
  have rN : readR (F.set 46 64) = 3 := fr5 hF
  have vN : vRead (F.set 46 64) = (.tup [.agg view0, .int .i64 3]) := vRead_N rN (by decide)
  have gN : goodF (F.set 46 64) = false := goodF_N (by rw [rN]; decide)
  refine Runs.valT0 (tFROk F (.tup [.agg view0, .int .i64 3]) false) (F := 100) (n := 4) (pr := [(15, .int .i64 5), (75, .bool true), (78, .bool false), (82, .bool true), (89, .bool true)]) ?_
  refine (nfFR5 n k 0 0 0 F _).trans ?_
  refine (if_pos (cdec_true.2 (hB _ _ _ (bOk_row rfl rfl rfl) rfl))).trans ?_
  refine (if_pos (⟨rfl, hk⟩)).trans ?_
  refine (if_pos (⟨by decide, by omega⟩)).trans ?_
  refine (if_pos (⟨by simp; omega, rfl⟩)).trans ?_
  refine (if_pos (cdec_true.2 (sayRead (bOk_row (l := (F.set 46 64)) rfl hcell (by simp)) (by show F.length ≤ _; omega) vN))).trans ?_
  refine (if_pos (cdec_true.2 (sayGood (bOk_row (l := (F.set 46 64)) rfl hcell (by simp)) (by show F.length ≤ _; omega) gN))).trans ?_
  rfl

theorem fr6Run (n k : Int) (F : List UInt8) (hF : FrF F) (hv0 : vRead F = .tup [.agg (viewOf false 14 34 57 6 (kSrc false n) (kDst false) (kport n) 80 0), .int .i64 0])
    (hB : ∀ (h : AHeap) (a : AV) (q : Nat), (bOk h a = true ∧ bOf h a = [97, 98, 99]) → h.length = q → BuildR0 [.agg (keyV false false n), .int .u8 0, a, .bool false, .bool false, .int .i64 0] h (slB q F) [ownB F]) (hk : k % 9 = 6) :
    ∃ h', Runs Try.prog 7 [.int .i64 n, .int .i64 k] [] (.bool true) h' := by
  have hl := hF.len
  have rN : readR (F.take 40) = 1 := fr6 hF
  have vN : vRead (F.take 40) = (.tup [.agg view0, .int .i64 1]) := vRead_N rN (by decide)
  have gN : goodF (F.take 40) = false := goodF_N (by rw [rN]; decide)
  refine Runs.valT0 (tFROk F (.tup [.agg view0, .int .i64 1]) false) (F := 100) (n := 4) (pr := [(15, .int .i64 6), (75, .bool true), (78, .bool false), (82, .bool true), (89, .bool true)]) ?_
  refine (nfFR6 n k 0 0 0 F _).trans ?_
  refine (if_pos (cdec_true.2 (hB _ _ _ (bOk_row rfl rfl rfl) rfl))).trans ?_
  refine (if_pos (⟨rfl, hk⟩)).trans ?_
  refine (if_pos (⟨by decide, by simp only [capOf_f]; omega⟩)).trans ?_
  refine (if_pos (cdec_true.2 (sayRead (bOk_cut (l := F) (L := (F.take 40)) rfl rfl (by simp; omega) (by simp)) (by show 40 ≤ 1000000000000; decide) vN))).trans ?_
  refine (if_pos (cdec_true.2 (sayGood (bOk_cut (l := F) (L := (F.take 40)) rfl rfl (by simp; omega) (by simp)) (by show 40 ≤ 1000000000000; decide) gN))).trans ?_
  rfl

theorem fr7Run (n k : Int) (F : List UInt8) (hF : FrF F) (hv0 : vRead F = .tup [.agg (viewOf false 14 34 57 6 (kSrc false n) (kDst false) (kport n) 80 0), .int .i64 0])
    (hB : ∀ (h : AHeap) (a : AV) (q : Nat), (bOk h a = true ∧ bOf h a = [97, 98, 99]) → h.length = q → BuildR0 [.agg (keyV false false n), .int .u8 0, a, .bool false, .bool false, .int .i64 0] h (slB q F) [ownB F]) (hk : k % 9 = 7) :
    ∃ h', Runs Try.prog 7 [.int .i64 n, .int .i64 k] [] (.bool true) h' := by
  have hl := hF.len
  have h24 : intV (bys F)[24]? = byt F 24 := by simp
  have hxr : 0 ≤ abits .u8 (· ^^^ ·) (byt F 24) 1 ∧ abits .u8 (· ^^^ ·) (byt F 24) 1 < 256 := by
    obtain ⟨d, e, hd, _⟩ := flip_byte (q := 0) (byt_range F 24) (by decide)
    have e2 : abits .u8 (· ^^^ ·) (byt F 24) 1 = byt F 24 + d := e
    rw [e2]; exact hd
  have hcell : putCells (putCells (bys F) 24 [AV.int IntKind.u8 (abits IntKind.u8 (· ^^^ ·) (intV (bys F)[24]?) 1)]) 46 [AV.int IntKind.u8 64] = bys ((F.set 24 (u8i (abits .u8 (· ^^^ ·) (byt F 24) 1))).set 46 64) := by rw [h24, putCells_byte' _ _ _ hxr, putCells_byte' _ _ 64 (by decide)]; rfl
  have rN : readR ((F.set 24 (u8i (abits .u8 (· ^^^ ·) (byt F 24) 1))).set 46 64) = 4 := fr7 hF rfl
  have vN : vRead ((F.set 24 (u8i (abits .u8 (· ^^^ ·) (byt F 24) 1))).set 46 64) = (.tup [.agg view0, .int .i64 4]) := vRead_N rN (by decide)
  have gN : goodF ((F.set 24 (u8i (abits .u8 (· ^^^ ·) (byt F 24) 1))).set 46 64) = false := goodF_N (by rw [rN]; decide)
  refine Runs.valT0 (tFROk F (.tup [.agg view0, .int .i64 4]) false) (F := 100) (n := 4) (pr := [(15, .int .i64 7), (75, .bool true), (78, .bool false), (82, .bool true), (89, .bool true)]) ?_
  refine (nfFR7 n k 0 0 0 F _).trans ?_
  refine (if_pos (cdec_true.2 (hB _ _ _ (bOk_row rfl rfl rfl) rfl))).trans ?_
  refine (if_pos (⟨rfl, hk⟩)).trans ?_
  refine (if_pos (⟨by decide, by omega⟩)).trans ?_
  refine (if_pos (by simp; omega)).trans ?_
  refine (if_pos (⟨by decide, by omega⟩)).trans ?_
  refine (if_pos (⟨by simp; omega, rfl⟩)).trans ?_
  refine (if_pos (⟨by decide, by omega⟩)).trans ?_
  refine (if_pos (⟨by simp; omega, rfl⟩)).trans ?_
  refine (if_pos (cdec_true.2 (sayRead (bOk_row (l := ((F.set 24 (u8i (abits .u8 (· ^^^ ·) (byt F 24) 1))).set 46 64)) rfl hcell (by simp)) (by show F.length ≤ _; omega) vN))).trans ?_
  refine (if_pos (cdec_true.2 (sayGood (bOk_row (l := ((F.set 24 (u8i (abits .u8 (· ^^^ ·) (byt F 24) 1))).set 46 64)) rfl hcell (by simp)) (by show F.length ≤ _; omega) gN))).trans ?_
  rfl

theorem fr8Run (n k : Int) (F : List UInt8) (hF : FrF F) (hv0 : vRead F = .tup [.agg (viewOf false 14 34 57 6 (kSrc false n) (kDst false) (kport n) 80 0), .int .i64 0])
    (hB : ∀ (h : AHeap) (a : AV) (q : Nat), (bOk h a = true ∧ bOf h a = [97, 98, 99]) → h.length = q → BuildR0 [.agg (keyV false false n), .int .u8 0, a, .bool false, .bool false, .int .i64 0] h (slB q F) [ownB F]) (hk : k % 9 = 8) :
    ∃ h', Runs Try.prog 7 [.int .i64 n, .int .i64 k] [] (.bool true) h' := by
  have hl := hF.len
  have hcell : putCells (putCells (putCells (bys F) 12 [AV.int IntKind.u8 134]) 13 [AV.int IntKind.u8 221]) 14 [AV.int IntKind.u8 69] = bys (((F.set 12 134).set 13 221).set 14 69) := by rw [putCells_byte' _ _ 134 (by decide), putCells_byte' _ _ 221 (by decide), putCells_byte' _ _ 69 (by decide)]; rfl
  have rN : readR (((F.set 12 134).set 13 221).set 14 69) = 3 := fr8 hF
  have vN : vRead (((F.set 12 134).set 13 221).set 14 69) = (.tup [.agg view0, .int .i64 3]) := vRead_N rN (by decide)
  have gN : goodF (((F.set 12 134).set 13 221).set 14 69) = false := goodF_N (by rw [rN]; decide)
  refine Runs.valT0 (tFROk F (.tup [.agg view0, .int .i64 3]) false) (F := 100) (n := 4) (pr := [(15, .int .i64 8), (66, .bool true), (75, .bool true), (78, .bool false), (82, .bool true), (89, .bool true)]) ?_
  refine (nfFR8 n k 0 0 0 F _).trans ?_
  refine (if_pos (cdec_true.2 (hB _ _ _ (bOk_row rfl rfl rfl) rfl))).trans ?_
  refine (if_pos (⟨rfl, hk⟩)).trans ?_
  refine (if_pos (⟨by decide, by omega⟩)).trans ?_
  refine (if_pos (⟨by simp; omega, rfl⟩)).trans ?_
  refine (if_pos (⟨by decide, by omega⟩)).trans ?_
  refine (if_pos (⟨by simp; omega, rfl⟩)).trans ?_
  refine (if_pos (⟨by decide, by omega⟩)).trans ?_
  refine (if_pos (⟨by simp; omega, rfl⟩)).trans ?_
  refine (if_pos (decide_eq_true (by omega))).trans ?_
  refine (if_pos (cdec_true.2 (sayRead (bOk_row (l := (((F.set 12 134).set 13 221).set 14 69)) rfl hcell (by simp)) (by show F.length ≤ _; omega) vN))).trans ?_
  refine (if_pos (cdec_true.2 (sayGood (bOk_row (l := (((F.set 12 134).set 13 221).set 14 69)) rfl hcell (by simp)) (by show F.length ≤ _; omega) gN))).trans ?_
  rfl

theorem runFrameReasons (n k : Int) (hn : -9223372036854775808 ≤ n ∧ n < 9223372036854775808) (hk : -9223372036854775808 ≤ k ∧ k < 9223372036854775808) : ∃ h', Runs Try.prog 7 [.int .i64 n, .int .i64 k] [] (.bool true) h' := by
  have hF := frF n
  have hv0 : vRead (bldF false false false false n 0 [97, 98, 99] 0) = .tup [.agg (viewOf false 14 34 57 6 (kSrc false n) (kDst false) (kport n) 80 0), .int .i64 0] := (bldF_read false false false false n 0 [97, 98, 99] 0 (by decide) (by decide)).2.2
  have hB : ∀ (h : AHeap) (a : AV) (q : Nat), (bOk h a = true ∧ bOf h a = [97, 98, 99]) → h.length = q → BuildR0 [.agg (keyV false false n), .int .u8 0, a, .bool false, .bool false, .int .i64 0] h (slB q (bldF false false false false n 0 [97, 98, 99] 0)) [ownB (bldF false false false false n 0 [97, 98, 99] 0)] :=
    fun h a q g hq => BuildR0.mk false false false n 0 [97, 98, 99] 0 h a q g (by decide) (by decide) hq
  generalize (bldF false false false false n 0 [97, 98, 99] 0) = F at *
  have h9 : k % 9 = 0 ∨ k % 9 = 1 ∨ k % 9 = 2 ∨ k % 9 = 3 ∨ k % 9 = 4 ∨ k % 9 = 5 ∨ k % 9 = 6 ∨ k % 9 = 7 ∨ k % 9 = 8 := by omega
  rcases h9 with h | h | h | h | h | h | h | h | h
  · exact fr0Run n k F hF hv0 hB h
  · exact fr1Run n k F hF hv0 hB h
  · exact fr2Run n k F hF hv0 hB h
  · exact fr3Run n k F hF hv0 hB h
  · exact fr4Run n k F hF hv0 hB h
  · exact fr5Run n k F hF hv0 hB h
  · exact fr6Run n k F hF hv0 hB h
  · exact fr7Run n k F hF hv0 hB h
  · exact fr8Run n k F hF hv0 hB h

end Go.Proofs.Ythbneddbigclfaa.L
