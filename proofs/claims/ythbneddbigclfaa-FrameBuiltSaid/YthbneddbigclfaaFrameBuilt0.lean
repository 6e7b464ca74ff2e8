/- FrameBuilt's run. -/
import Derived.Test.YthbneddbigclfaaFrameBuiltN
set_option autoImplicit false
set_option maxRecDepth 100000
set_option linter.unusedVariables false
set_option linter.unusedSimpArgs false
namespace Go.Proofs.Ythbneddbigclfaa.L
open Go Go.Abs

theorem fbRunFFF (bare : Bool) (n fl : Int) (d : List UInt8) (p : Nat) (hf : 0 ≤ fl ∧ fl < 256) (hd : d.length ≤ 500) (hp : p ≤ 50) :
    ∃ h', Runs Try.prog 4 [.int .i64 n, .bool false, .bool false, .int .u8 fl, slB 0 d, .bool false, .bool bare, .int .i64 (p : Int)] [farB d] (.bool true) h' := by
  have hw : IntKind.i64.wrap (54 + (d.length : Int)) = ((14 + 20 + (20 + d.length) : Nat) : Int) := by rw [wrapI64 (by omega)]; omega
  have hl : (bldF false false false bare n (u8i fl) d p).length = 14 + 20 + (20 + d.length) + p := bldF_len false false false bare n (u8i fl) d p (by omega)
  have hfl : ((u8i fl).toNat : Int) = fl := by rw [u8i_toNat]; omega
  have hv : vRead (bldF false false false bare n (u8i fl) d p) = (.tup [.agg (viewOf false 14 34 (IntKind.i64.wrap (54 + (d.length : Int))) 6 (kSrc false n) (kDst false) (kport n) 80 fl), .int .i64 0]) := by
    rw [(bldF_read false false false bare n (u8i fl) d p (by omega) (by omega)).2.2, hw, hfl]; rfl
  have hB : ∀ (h : AHeap) (a : AV) (k : Nat), (bOk h a = true ∧ bOf h a = d) → h.length = k → BuildR [.agg (keyV false false n), .int .u8 fl, a, .bool false, .bool bare, .int .i64 (p : Int)] h (slB k (bldF false false false bare n (u8i fl) d p)) [ownB (bldF false false false bare n (u8i fl) d p)] := fun h a k g hk => by
    have := BuildR.mk false false false bare n (u8i fl) d p h a k g (by omega) (by omega) hk
    rw [hfl] at this; exact this
  refine Runs.valT0 (tFBOk (bldF false false false bare n (u8i fl) d p) (.tup [.agg (viewOf false 14 34 (IntKind.i64.wrap (54 + (d.length : Int))) 6 (kSrc false n) (kDst false) (kport n) 80 fl), .int .i64 0])) (F := 100) (n := 4) (pr := [(27, .bool false), (31, .bool false), (34, .bool false), (57, .bool true), (77, .bool true), (81, .bool true), (90, .bool true)]) ?_
  refine (nfFBFFF bare n 14 34 (IntKind.i64.wrap (54 + (d.length : Int))) fl (p : Int) d (bldF false false false bare n (u8i fl) d p) _).trans ?_
  iterate 3 (refine (if_pos (decide_eq_false (by omega))).trans ?_)
  refine (if_pos (cdec_true.2 (hB _ _ _ (bOk_row rfl rfl rfl) rfl))).trans ?_
  refine (if_pos (cdec_true.2 (sayRead (bOk_row rfl rfl rfl) (by show (bldF false false false bare n (u8i fl) d p).length ≤ _; omega) hv))).trans ?_
  refine (if_pos (by simp)).trans ?_
  refine (if_pos (cdec_true.2 (sayGood (bOk_row rfl rfl rfl) (by show (bldF false false false bare n (u8i fl) d p).length ≤ _; omega) (bldF_good _ _ _ _ _ _ _ _ (by omega) (by omega))))).trans ?_
  refine (if_pos (by rw [hl]; simp only [intV]; rw [hw, wrapI64 (by omega)]; first | (simp; done) | (simp; omega))).trans ?_
  rfl

theorem fbRunFFT (bare : Bool) (n fl : Int) (d : List UInt8) (p : Nat) (hf : 0 ≤ fl ∧ fl < 256) (hd : d.length ≤ 500) (hp : p ≤ 50) :
    ∃ h', Runs Try.prog 4 [.int .i64 n, .bool false, .bool false, .int .u8 fl, slB 0 d, .bool true, .bool bare, .int .i64 (p : Int)] [farB d] (.bool true) h' := by
  have hw : IntKind.i64.wrap (58 + (d.length : Int)) = ((18 + 20 + (20 + d.length) : Nat) : Int) := by rw [wrapI64 (by omega)]; omega
  have hl : (bldF false false true bare n (u8i fl) d p).length = 18 + 20 + (20 + d.length) + p := bldF_len false false true bare n (u8i fl) d p (by omega)
  have hfl : ((u8i fl).toNat : Int) = fl := by rw [u8i_toNat]; omega
  have hv : vRead (bldF false false true bare n (u8i fl) d p) = (.tup [.agg (viewOf false 18 38 (IntKind.i64.wrap (58 + (d.length : Int))) 6 (kSrc false n) (kDst false) (kport n) 80 fl), .int .i64 0]) := by
    rw [(bldF_read false false true bare n (u8i fl) d p (by omega) (by omega)).2.2, hw, hfl]; rfl
  have hB : ∀ (h : AHeap) (a : AV) (k : Nat), (bOk h a = true ∧ bOf h a = d) → h.length = k → BuildR [.agg (keyV false false n), .int .u8 fl, a, .bool true, .bool bare, .int .i64 (p : Int)] h (slB k (bldF false false true bare n (u8i fl) d p)) [ownB (bldF false false true bare n (u8i fl) d p)] := fun h a k g hk => by
    have := BuildR.mk false false true bare n (u8i fl) d p h a k g (by omega) (by omega) hk
    rw [hfl] at this; exact this
  refine Runs.valT0 (tFBOk (bldF false false true bare n (u8i fl) d p) (.tup [.agg (viewOf false 18 38 (IntKind.i64.wrap (58 + (d.length : Int))) 6 (kSrc false n) (kDst false) (kport n) 80 fl), .int .i64 0])) (F := 100) (n := 4) (pr := [(27, .bool false), (31, .bool false), (34, .bool false), (57, .bool true), (77, .bool true), (81, .bool true), (90, .bool true)]) ?_
  refine (nfFBFFT bare n 18 38 (IntKind.i64.wrap (58 + (d.length : Int))) fl (p : Int) d (bldF false false true bare n (u8i fl) d p) _).trans ?_
  iterate 3 (refine (if_pos (decide_eq_false (by omega))).trans ?_)
  refine (if_pos (cdec_true.2 (hB _ _ _ (bOk_row rfl rfl rfl) rfl))).trans ?_
  refine (if_pos (cdec_true.2 (sayRead (bOk_row rfl rfl rfl) (by show (bldF false false true bare n (u8i fl) d p).length ≤ _; omega) hv))).trans ?_
  refine (if_pos (by simp)).trans ?_
  refine (if_pos (cdec_true.2 (sayGood (bOk_row rfl rfl rfl) (by show (bldF false false true bare n (u8i fl) d p).length ≤ _; omega) (bldF_good _ _ _ _ _ _ _ _ (by omega) (by omega))))).trans ?_
  refine (if_pos (by rw [hl]; simp only [intV]; rw [hw, wrapI64 (by omega)]; first | (simp; done) | (simp; omega))).trans ?_
  rfl

theorem fbRunFTF (bare : Bool) (n fl : Int) (d : List UInt8) (p : Nat) (hf : 0 ≤ fl ∧ fl < 256) (hd : d.length ≤ 500) (hp : p ≤ 50) :
    ∃ h', Runs Try.prog 4 [.int .i64 n, .bool false, .bool true, .int .u8 fl, slB 0 d, .bool false, .bool bare, .int .i64 (p : Int)] [farB d] (.bool true) h' := by
  have hw : IntKind.i64.wrap (42 + (d.length : Int)) = ((14 + 20 + (8 + d.length) : Nat) : Int) := by rw [wrapI64 (by omega)]; omega
  have hl : (bldF false true false bare n (u8i fl) d p).length = 14 + 20 + (8 + d.length) + p := bldF_len false true false bare n (u8i fl) d p (by omega)
  have hfl : ((u8i fl).toNat : Int) = fl := by rw [u8i_toNat]; omega
  have hv : vRead (bldF false true false bare n (u8i fl) d p) = (.tup [.agg (viewOf false 14 34 (IntKind.i64.wrap (42 + (d.length : Int))) 17 (kSrc false n) (kDst false) (kport n) 80 0), .int .i64 0]) := by
    rw [(bldF_read false true false bare n (u8i fl) d p (by omega) (by omega)).2.2, hw, hfl]; rfl
  have hB : ∀ (h : AHeap) (a : AV) (k : Nat), (bOk h a = true ∧ bOf h a = d) → h.length = k → BuildR [.agg (keyV false true n), .int .u8 fl, a, .bool false, .bool bare, .int .i64 (p : Int)] h (slB k (bldF false true false bare n (u8i fl) d p)) [ownB (bldF false true false bare n (u8i fl) d p)] := fun h a k g hk => by
    have := BuildR.mk false true false bare n (u8i fl) d p h a k g (by omega) (by omega) hk
    rw [hfl] at this; exact this
  refine Runs.valT0 (tFBOk (bldF false true false bare n (u8i fl) d p) (.tup [.agg (viewOf false 14 34 (IntKind.i64.wrap (42 + (d.length : Int))) 17 (kSrc false n) (kDst false) (kport n) 80 0), .int .i64 0])) (F := 100) (n := 4) (pr := [(27, .bool false), (31, .bool false), (34, .bool false), (57, .bool true), (77, .bool true), (81, .bool true), (90, .bool true)]) ?_
  refine (nfFBFTF bare n 14 34 (IntKind.i64.wrap (42 + (d.length : Int))) fl (p : Int) d (bldF false true false bare n (u8i fl) d p) _).trans ?_
  iterate 3 (refine (if_pos (decide_eq_false (by omega))).trans ?_)
  refine (if_pos (cdec_true.2 (hB _ _ _ (bOk_row rfl rfl rfl) rfl))).trans ?_
  refine (if_pos (cdec_true.2 (sayRead (bOk_row rfl rfl rfl) (by show (bldF false true false bare n (u8i fl) d p).length ≤ _; omega) hv))).trans ?_
  refine (if_pos (by simp)).trans ?_
  refine (if_pos (cdec_true.2 (sayGood (bOk_row rfl rfl rfl) (by show (bldF false true false bare n (u8i fl) d p).length ≤ _; omega) (bldF_good _ _ _ _ _ _ _ _ (by omega) (by omega))))).trans ?_
  refine (if_pos (by rw [hl]; simp only [intV]; rw [hw, wrapI64 (by omega)]; first | (simp; done) | (simp; omega))).trans ?_
  rfl

theorem fbRunFTT (bare : Bool) (n fl : Int) (d : List UInt8) (p : Nat) (hf : 0 ≤ fl ∧ fl < 256) (hd : d.length ≤ 500) (hp : p ≤ 50) :
    ∃ h', Runs Try.prog 4 [.int .i64 n, .bool false, .bool true, .int .u8 fl, slB 0 d, .bool true, .bool bare, .int .i64 (p : Int)] [farB d] (.bool true) h' := by
  have hw : IntKind.i64.wrap (46 + (d.length : Int)) = ((18 + 20 + (8 + d.length) : Nat) : Int) := by rw [wrapI64 (by omega)]; omega
  have hl : (bldF false true true bare n (u8i fl) d p).length = 18 + 20 + (8 + d.length) + p := bldF_len false true true bare n (u8i fl) d p (by omega)
  have hfl : ((u8i fl).toNat : Int) = fl := by rw [u8i_toNat]; omega
  have hv : vRead (bldF false true true bare n (u8i fl) d p) = (.tup [.agg (viewOf false 18 38 (IntKind.i64.wrap (46 + (d.length : Int))) 17 (kSrc false n) (kDst false) (kport n) 80 0), .int .i64 0]) := by
    rw [(bldF_read false true true bare n (u8i fl) d p (by omega) (by omega)).2.2, hw, hfl]; rfl
  have hB : ∀ (h : AHeap) (a : AV) (k : Nat), (bOk h a = true ∧ bOf h a = d) → h.length = k → BuildR [.agg (keyV false true n), .int .u8 fl, a, .bool true, .bool bare, .int .i64 (p : Int)] h (slB k (bldF false true true bare n (u8i fl) d p)) [ownB (bldF false true true bare n (u8i fl) d p)] := fun h a k g hk => by
    have := BuildR.mk false true true bare n (u8i fl) d p h a k g (by omega) (by omega) hk
    rw [hfl] at this; exact this
  refine Runs.valT0 (tFBOk (bldF false true true bare n (u8i fl) d p) (.tup [.agg (viewOf false 18 38 (IntKind.i64.wrap (46 + (d.length : Int))) 17 (kSrc false n) (kDst false) (kport n) 80 0), .int .i64 0])) (F := 100) (n := 4) (pr := [(27, .bool false), (31, .bool false), (34, .bool false), (57, .bool true), (77, .bool true), (81, .bool true), (90, .bool true)]) ?_
  refine (nfFBFTT bare n 18 38 (IntKind.i64.wrap (46 + (d.length : Int))) fl (p : Int) d (bldF false true true bare n (u8i fl) d p) _).trans ?_
  iterate 3 (refine (if_pos (decide_eq_false (by omega))).trans ?_)
  refine (if_pos (cdec_true.2 (hB _ _ _ (bOk_row rfl rfl rfl) rfl))).trans ?_
  refine (if_pos (cdec_true.2 (sayRead (bOk_row rfl rfl rfl) (by show (bldF false true true bare n (u8i fl) d p).length ≤ _; omega) hv))).trans ?_
  refine (if_pos (by simp)).trans ?_
  refine (if_pos (cdec_true.2 (sayGood (bOk_row rfl rfl rfl) (by show (bldF false true true bare n (u8i fl) d p).length ≤ _; omega) (bldF_good _ _ _ _ _ _ _ _ (by omega) (by omega))))).trans ?_
  refine (if_pos (by rw [hl]; simp only [intV]; rw [hw, wrapI64 (by omega)]; first | (simp; done) | (simp; omega))).trans ?_
  rfl

theorem fbRunTFF (bare : Bool) (n fl : Int) (d : List UInt8) (p : Nat) (hf : 0 ≤ fl ∧ fl < 256) (hd : d.length ≤ 500) (hp : p ≤ 50) :
    ∃ h', Runs Try.prog 4 [.int .i64 n, .bool true, .bool false, .int .u8 fl, slB 0 d, .bool false, .bool bare, .int .i64 (p : Int)] [farB d] (.bool true) h' := by
  have hw : IntKind.i64.wrap (74 + (d.length : Int)) = ((14 + 40 + (20 + d.length) : Nat) : Int) := by rw [wrapI64 (by omega)]; omega
  have hl : (bldF true false false bare n (u8i fl) d p).length = 14 + 40 + (20 + d.length) + p := bldF_len true false false bare n (u8i fl) d p (by omega)
  have hfl : ((u8i fl).toNat : Int) = fl := by rw [u8i_toNat]; omega
  have hv : vRead (bldF true false false bare n (u8i fl) d p) = (.tup [.agg (viewOf true 14 54 (IntKind.i64.wrap (74 + (d.length : Int))) 6 (kSrc true n) (kDst true) (kport n) 80 fl), .int .i64 0]) := by
    rw [(bldF_read true false false bare n (u8i fl) d p (by omega) (by omega)).2.2, hw, hfl]; rfl
  have hB : ∀ (h : AHeap) (a : AV) (k : Nat), (bOk h a = true ∧ bOf h a = d) → h.length = k → BuildR [.agg (keyV true false n), .int .u8 fl, a, .bool false, .bool bare, .int .i64 (p : Int)] h (slB k (bldF true false false bare n (u8i fl) d p)) [ownB (bldF true false false bare n (u8i fl) d p)] := fun h a k g hk => by
    have := BuildR.mk true false false bare n (u8i fl) d p h a k g (by omega) (by omega) hk
    rw [hfl] at this; exact this
  refine Runs.valT0 (tFBOk (bldF true false false bare n (u8i fl) d p) (.tup [.agg (viewOf true 14 54 (IntKind.i64.wrap (74 + (d.length : Int))) 6 (kSrc true n) (kDst true) (kport n) 80 fl), .int .i64 0])) (F := 100) (n := 4) (pr := [(27, .bool false), (31, .bool false), (34, .bool false), (57, .bool true), (77, .bool true), (81, .bool true), (90, .bool true)]) ?_
  refine (nfFBTFF bare n 14 54 (IntKind.i64.wrap (74 + (d.length : Int))) fl (p : Int) d (bldF true false false bare n (u8i fl) d p) _).trans ?_
  iterate 3 (refine (if_pos (decide_eq_false (by omega))).trans ?_)
  refine (if_pos (cdec_true.2 (hB _ _ _ (bOk_row rfl rfl rfl) rfl))).trans ?_
  refine (if_pos (cdec_true.2 (sayRead (bOk_row rfl rfl rfl) (by show (bldF true false false bare n (u8i fl) d p).length ≤ _; omega) hv))).trans ?_
  refine (if_pos (by simp)).trans ?_
  refine (if_pos (cdec_true.2 (sayGood (bOk_row rfl rfl rfl) (by show (bldF true false false bare n (u8i fl) d p).length ≤ _; omega) (bldF_good _ _ _ _ _ _ _ _ (by omega) (by omega))))).trans ?_
  refine (if_pos (by rw [hl]; simp only [intV]; rw [hw, wrapI64 (by omega)]; first | (simp; done) | (simp; omega))).trans ?_
  rfl

theorem fbRunTFT (bare : Bool) (n fl : Int) (d : List UInt8) (p : Nat) (hf : 0 ≤ fl ∧ fl < 256) (hd : d.length ≤ 500) (hp : p ≤ 50) :
    ∃ h', Runs Try.prog 4 [.int .i64 n, .bool true, .bool false, .int .u8 fl, slB 0 d, .bool true, .bool bare, .int .i64 (p : Int)] [farB d] (.bool true) h' := by
  have hw : IntKind.i64.wrap (78 + (d.length : Int)) = ((18 + 40 + (20 + d.length) : Nat) : Int) := by rw [wrapI64 (by omega)]; omega
  have hl : (bldF true false true bare n (u8i fl) d p).length = 18 + 40 + (20 + d.length) + p := bldF_len true false true bare n (u8i fl) d p (by omega)
  have hfl : ((u8i fl).toNat : Int) = fl := by rw [u8i_toNat]; omega
  have hv : vRead (bldF true false true bare n (u8i fl) d p) = (.tup [.agg (viewOf true 18 58 (IntKind.i64.wrap (78 + (d.length : Int))) 6 (kSrc true n) (kDst true) (kport n) 80 fl), .int .i64 0]) := by
    rw [(bldF_read true false true bare n (u8i fl) d p (by omega) (by omega)).2.2, hw, hfl]; rfl
  have hB : ∀ (h : AHeap) (a : AV) (k : Nat), (bOk h a = true ∧ bOf h a = d) → h.length = k → BuildR [.agg (keyV true false n), .int .u8 fl, a, .bool true, .bool bare, .int .i64 (p : Int)] h (slB k (bldF true false true bare n (u8i fl) d p)) [ownB (bldF true false true bare n (u8i fl) d p)] := fun h a k g hk => by
    have := BuildR.mk true false true bare n (u8i fl) d p h a k g (by omega) (by omega) hk
    rw [hfl] at this; exact this
  refine Runs.valT0 (tFBOk (bldF true false true bare n (u8i fl) d p) (.tup [.agg (viewOf true 18 58 (IntKind.i64.wrap (78 + (d.length : Int))) 6 (kSrc true n) (kDst true) (kport n) 80 fl), .int .i64 0])) (F := 100) (n := 4) (pr := [(27, .bool false), (31, .bool false), (34, .bool false), (57, .bool true), (77, .bool true), (81, .bool true), (90, .bool true)]) ?_
  refine (nfFBTFT bare n 18 58 (IntKind.i64.wrap (78 + (d.length : Int))) fl (p : Int) d (bldF true false true bare n (u8i fl) d p) _).trans ?_
  iterate 3 (refine (if_pos (decide_eq_false (by omega))).trans ?_)
  refine (if_pos (cdec_true.2 (hB _ _ _ (bOk_row rfl rfl rfl) rfl))).trans ?_
  refine (if_pos (cdec_true.2 (sayRead (bOk_row rfl rfl rfl) (by show (bldF true false true bare n (u8i fl) d p).length ≤ _; omega) hv))).trans ?_
  refine (if_pos (by simp)).trans ?_
  refine (if_pos (cdec_true.2 (sayGood (bOk_row rfl rfl rfl) (by show (bldF true false true bare n (u8i fl) d p).length ≤ _; omega) (bldF_good _ _ _ _ _ _ _ _ (by omega) (by omega))))).trans ?_
  refine (if_pos (by rw [hl]; simp only [intV]; rw [hw, wrapI64 (by omega)]; first | (simp; done) | (simp; omega))).trans ?_
  rfl

theorem fbRunTTF (bare : Bool) (n fl : Int) (d : List UInt8) (p : Nat) (hf : 0 ≤ fl ∧ fl < 256) (hd : d.length ≤ 500) (hp : p ≤ 50) :
    ∃ h', Runs Try.prog 4 [.int .i64 n, .bool true, .bool true, .int .u8 fl, slB 0 d, .bool false, .bool bare, .int .i64 (p : Int)] [farB d] (.bool true) h' := by
  have hw : IntKind.i64.wrap (62 + (d.length : Int)) = ((14 + 40 + (8 + d.length) : Nat) : Int) := by rw [wrapI64 (by omega)]; omega
  have hl : (bldF true true false bare n (u8i fl) d p).length = 14 + 40 + (8 + d.length) + p := bldF_len true true false bare n (u8i fl) d p (by omega)
  have hfl : ((u8i fl).toNat : Int) = fl := by rw [u8i_toNat]; omega
  have hv : vRead (bldF true true false bare n (u8i fl) d p) = (.tup [.agg (viewOf true 14 54 (IntKind.i64.wrap (62 + (d.length : Int))) 17 (kSrc true n) (kDst true) (kport n) 80 0), .int .i64 0]) := by
    rw [(bldF_read true true false bare n (u8i fl) d p (by omega) (by omega)).2.2, hw, hfl]; rfl
  have hB : ∀ (h : AHeap) (a : AV) (k : Nat), (bOk h a = true ∧ bOf h a = d) → h.length = k → BuildR [.agg (keyV true true n), .int .u8 fl, a, .bool false, .bool bare, .int .i64 (p : Int)] h (slB k (bldF true true false bare n (u8i fl) d p)) [ownB (bldF true true false bare n (u8i fl) d p)] := fun h a k g hk => by
    have := BuildR.mk true true false bare n (u8i fl) d p h a k g (by omega) (by omega) hk
    rw [hfl] at this; exact this
  refine Runs.valT0 (tFBOk (bldF true true false bare n (u8i fl) d p) (.tup [.agg (viewOf true 14 54 (IntKind.i64.wrap (62 + (d.length : Int))) 17 (kSrc true n) (kDst true) (kport n) 80 0), .int .i64 0])) (F := 100) (n := 4) (pr := [(27, .bool false), (31, .bool false), (34, .bool false), (57, .bool true), (77, .bool true), (81, .bool true), (90, .bool true)]) ?_
  refine (nfFBTTF bare n 14 54 (IntKind.i64.wrap (62 + (d.length : Int))) fl (p : Int) d (bldF true true false bare n (u8i fl) d p) _).trans ?_
  iterate 3 (refine (if_pos (decide_eq_false (by omega))).trans ?_)
  refine (if_pos (cdec_true.2 (hB _ _ _ (bOk_row rfl rfl rfl) rfl))).trans ?_
  refine (if_pos (cdec_true.2 (sayRead (bOk_row rfl rfl rfl) (by show (bldF true true false bare n (u8i fl) d p).length ≤ _; omega) hv))).trans ?_
  refine (if_pos (by simp)).trans ?_
  refine (if_pos (cdec_true.2 (sayGood (bOk_row rfl rfl rfl) (by show (bldF true true false bare n (u8i fl) d p).length ≤ _; omega) (bldF_good _ _ _ _ _ _ _ _ (by omega) (by omega))))).trans ?_
  refine (if_pos (by rw [hl]; simp only [intV]; rw [hw, wrapI64 (by omega)]; first | (simp; done) | (simp; omega))).trans ?_
  rfl

theorem fbRunTTT (bare : Bool) (n fl : Int) (d : List UInt8) (p : Nat) (hf : 0 ≤ fl ∧ fl < 256) (hd : d.length ≤ 500) (hp : p ≤ 50) :
    ∃ h', Runs Try.prog 4 [.int .i64 n, .bool true, .bool true, .int .u8 fl, slB 0 d, .bool true, .bool bare, .int .i64 (p : Int)] [farB d] (.bool true) h' := by
  have hw : IntKind.i64.wrap (66 + (d.length : Int)) = ((18 + 40 + (8 + d.length) : Nat) : Int) := by rw [wrapI64 (by omega)]; omega
  have hl : (bldF true true true bare n (u8i fl) d p).length = 18 + 40 + (8 + d.length) + p := bldF_len true true true bare n (u8i fl) d p (by omega)
  have hfl : ((u8i fl).toNat : Int) = fl := by rw [u8i_toNat]; omega
  have hv : vRead (bldF true true true bare n (u8i fl) d p) = (.tup [.agg (viewOf true 18 58 (IntKind.i64.wrap (66 + (d.length : Int))) 17 (kSrc true n) (kDst true) (kport n) 80 0), .int .i64 0]) := by
    rw [(bldF_read true true true bare n (u8i fl) d p (by omega) (by omega)).2.2, hw, hfl]; rfl
  have hB : ∀ (h : AHeap) (a : AV) (k : Nat), (bOk h a = true ∧ bOf h a = d) → h.length = k → BuildR [.agg (keyV true true n), .int .u8 fl, a, .bool true, .bool bare, .int .i64 (p : Int)] h (slB k (bldF true true true bare n (u8i fl) d p)) [ownB (bldF true true true bare n (u8i fl) d p)] := fun h a k g hk => by
    have := BuildR.mk true true true bare n (u8i fl) d p h a k g (by omega) (by omega) hk
    rw [hfl] at this; exact this
  refine Runs.valT0 (tFBOk (bldF true true true bare n (u8i fl) d p) (.tup [.agg (viewOf true 18 58 (IntKind.i64.wrap (66 + (d.length : Int))) 17 (kSrc true n) (kDst true) (kport n) 80 0), .int .i64 0])) (F := 100) (n := 4) (pr := [(27, .bool false), (31, .bool false), (34, .bool false), (57, .bool true), (77, .bool true), (81, .bool true), (90, .bool true)]) ?_
  refine (nfFBTTT bare n 18 58 (IntKind.i64.wrap (66 + (d.length : Int))) fl (p : Int) d (bldF true true true bare n (u8i fl) d p) _).trans ?_
  iterate 3 (refine (if_pos (decide_eq_false (by omega))).trans ?_)
  refine (if_pos (cdec_true.2 (hB _ _ _ (bOk_row rfl rfl rfl) rfl))).trans ?_
  refine (if_pos (cdec_true.2 (sayRead (bOk_row rfl rfl rfl) (by show (bldF true true true bare n (u8i fl) d p).length ≤ _; omega) hv))).trans ?_
  refine (if_pos (by simp)).trans ?_
  refine (if_pos (cdec_true.2 (sayGood (bOk_row rfl rfl rfl) (by show (bldF true true true bare n (u8i fl) d p).length ≤ _; omega) (bldF_good _ _ _ _ _ _ _ _ (by omega) (by omega))))).trans ?_
  refine (if_pos (by rw [hl]; simp only [intV]; rw [hw, wrapI64 (by omega)]; first | (simp; done) | (simp; omega))).trans ?_
  rfl

theorem runFrameBuilt (n : Int) (v u : Bool) (fl : Int) (d : List UInt8) (t bare : Bool) (pad : Int) (hn : -9223372036854775808 ≤ n ∧ n < 9223372036854775808) (hf : 0 ≤ fl ∧ fl < 256) (hd : d.length ≤ maxLen) (hp : -9223372036854775808 ≤ pad ∧ pad < 9223372036854775808) :
    ∃ h', Runs Try.prog 4 [.int .i64 n, .bool v, .bool u, .int .u8 fl, slB 0 d, .bool t, .bool bare, .int .i64 pad] [farB d] (.bool true) h' := by
  by_cases h1 : d.length ≤ 500
  case neg =>
    refine Runs.valT0 (tFBOk [] .nilFn) (F := 100) (n := 4) (pr := [(27, .bool true)]) ?_
    refine (nfFBX1 v u t bare n fl pad d _).trans ?_
    refine (if_pos (decide_eq_true (by omega))).trans ?_
    rfl
  by_cases h2 : pad < 0
  · refine Runs.valT0 (tFBOk [] .nilFn) (F := 100) (n := 4) (pr := [(27, .bool false), (31, .bool true)]) ?_
    refine (nfFBX2 v u t bare n fl pad d _).trans ?_
    refine (if_pos (decide_eq_false (by omega))).trans ?_
    refine (if_pos (decide_eq_true (by omega))).trans ?_
    rfl
  by_cases h3 : pad > 50
  · refine Runs.valT0 (tFBOk [] .nilFn) (F := 100) (n := 4) (pr := [(27, .bool false), (31, .bool false), (34, .bool true)]) ?_
    refine (nfFBX3 v u t bare n fl pad d _).trans ?_
    refine (if_pos (decide_eq_false (by omega))).trans ?_
    refine (if_pos (decide_eq_false (by omega))).trans ?_
    refine (if_pos (decide_eq_true (by omega))).trans ?_
    rfl
  obtain ⟨p, rfl⟩ : ∃ p : Nat, pad = (p : Int) := ⟨pad.toNat, by omega⟩
  cases v <;> cases u <;> cases t
  · exact fbRunFFF bare n fl d p hf (by omega) (by omega)
  · exact fbRunFFT bare n fl d p hf (by omega) (by omega)
  · exact fbRunFTF bare n fl d p hf (by omega) (by omega)
  · exact fbRunFTT bare n fl d p hf (by omega) (by omega)
  · exact fbRunTFF bare n fl d p hf (by omega) (by omega)
  · exact fbRunTFT bare n fl d p hf (by omega) (by omega)
  · exact fbRunTTF bare n fl d p hf (by omega) (by omega)
  · exact fbRunTTT bare n fl d p hf (by omega) (by omega)

end Go.Proofs.Ythbneddbigclfaa.L
