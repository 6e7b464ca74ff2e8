/- Frames with something wrong. -/
import Derived.Test.YthbneddbigclfaaFrmAll
import Derived.Test.YthbneddbigclfaaCutKit
set_option autoImplicit false
set_option linter.unusedVariables false
namespace Go.Proofs.Ythbneddbigclfaa.L
open Go Go.Abs
structure FrF (F : List UInt8) : Prop where
  len : F.length = 57
  net : netR F = (14, 2048, 0)
  r : readR F = 0
  S : rdS F = 20
  E : rdE F = 43
  P : rdP F = 6
theorem frF (n : Int) : FrF (bldF false false false false n 0 [97, 98, 99] 0) := by
  have hl := bldF_len false false false false n 0 [97, 98, 99] 0 (by decide)
  obtain ⟨C0, h0, h1, h2⟩ := bldF_frm false false false false n 0 [97, 98, 99] 0 (by decide)
  obtain ⟨g1, g2, g3⟩ := bldF_read false false false false n 0 [97, 98, 99] 0 (by decide) (by decide)
  have hn : netR (bldF false false false false n 0 [97, 98, 99] 0) = (14, 2048, 0) := by rw [h1]; exact net_E false false _
  obtain ⟨e1, e2, e3, e4, e5, _⟩ := vw_facts g1 g3 (by rw [kSrc_B]; exact adrB_wf rfl) (by rw [kDst_B]; exact adrB_wf rfl)
  rw [hn] at e3 e4
  have f3 : (14 : Int) + rdS (bldF false false false false n 0 [97, 98, 99] 0) = 34 := e3
  have f4 : (14 : Int) + rdE (bldF false false false false n 0 [97, 98, 99] 0) = 57 := e4
  exact ⟨hl, hn, g1, by omega, by omega, e5⟩
theorem netR_eq {F F' : List UInt8} (hl : F'.length = F.length) (h12 : word F' 12 = word F 12) (h16 : word F' 16 = word F 16) : netR F' = netR F := by
  unfold netR; rw [hl, h12, h16]
theorem set_word {F : List UInt8} {i k : Nat} {x : UInt8} (hk : k < F.length) (h : i + 1 < k ∨ k < i) : word (F.set k x) i = word F i := by
  unfold word; rw [byt_set hk, byt_set hk, if_neg (by omega), if_neg (by omega)]
theorem word_two {F : List UInt8} {i : Nat} {x y : UInt8} (h : i + 1 < F.length) : word ((F.set i x).set (i + 1) y) i = (x.toNat : Int) * 256 + (y.toNat : Int) := by
  have a : byt ((F.set i x).set (i + 1) y) i = (x.toNat : Int) := by rw [byt_set (by simpa using h), if_neg (by omega), byt_set (by omega), if_pos rfl]
  have b : byt ((F.set i x).set (i + 1) y) (i + 1) = (y.toNat : Int) := by rw [byt_set (by simpa using h), if_pos rfl]
  unfold word; rw [a, b]
theorem byt_drp (l : List UInt8) (p i : Nat) : byt (l.drop p) i = byt l (p + i) := by simp [byt, List.getD]
theorem r4_nov {q : List UInt8} (hl : 20 ≤ q.length) (h : byt q 0 / 16 ≠ 4) : r4 q = 3 := by unfold r4; rw [if_neg (by omega), if_pos h]
theorem r4_eq {q q' : List UInt8} (hr : r4 q = 0) (hl : q'.length = q.length) (ht : q'.take 20 = q.take 20) (hs : s4 q = 20) : r4 q' = 0 := by
  have hb : ∀ i, i < 20 → byt q' i = byt q i := fun i hi => by rw [← byt_take hi, ht, byt_take hi]
  rw [← hr]
  have hs' : s4 q' = 20 := by unfold s4 at *; rw [hb 0 (by omega)]; exact hs
  unfold r4 word
  rw [hl, hs, hs', hb 0 (by omega), hb 2 (by omega), hb 3 (by omega), hb 6 (by omega), hb 7 (by omega), hb 9 (by omega), show ((20 : Int)).toNat = 20 from rfl, ht]
theorem r4_sum {q q' : List UInt8} (hr : r4 q = 0) (hl : q'.length = q.length) (hb : ∀ i, i < 4 → byt q' i = byt q i) (hs : s4 q = 20) (hc : chkI (q'.take 20) ≠ 0) : r4 q' = 4 := by
  have h := hr
  have hs' : s4 q' = 20 := by unfold s4 at *; rw [hb 0 (by omega)]; exact hs
  have hbd := r4_bounds hr
  unfold r4 at h ⊢
  unfold word at *
  split at h; · omega
  split at h; · omega
  rename_i h4
  rw [hl, if_neg (by omega), hb 0 (by omega), if_neg h4, hs', if_neg (by omega), hb 2 (by omega), hb (2 + 1) (by omega), if_neg (by omega), if_neg (by omega), show ((20 : Int)).toNat = 20 from rfl, if_pos hc]
theorem sum_bit {q : List UInt8} {x : UInt8} (hl : 20 ≤ q.length) (hc : chkI (q.take 20) = 0) (hx : x = u8i (abits .u8 (· ^^^ ·) (byt q 10) 1)) : chkI ((q.set 10 x).take 20) ≠ 0 := by
  obtain ⟨d, e, hd, hq⟩ := flip_byte (q := 0) (byt_range q 10) (by decide)
  have e2 : abits .u8 (· ^^^ ·) (byt q 10) 1 = byt q 10 + d := e
  rw [e2] at hx
  have hb : byt (q.take 20) 10 = byt q 10 := byt_take (by decide)
  have hf := sumI_flip (l := q.take 20) (k := 10) (q := 0) (d := d) (by rw [List.length_take]; omega) (by decide) hq (by rw [hb]; exact hd)
  rw [hb, ← hx] at hf
  rw [List.take_set]
  unfold chkI at *
  omega
variable {F : List UInt8}
theorem FrF.q (h : FrF F) : ipQ F = F.drop 14 := by unfold ipQ; rw [h.net]; rfl
theorem FrF.i (h : FrF F) : r4 (F.drop 14) = 0 ∧ s4 (F.drop 14) = 20 ∧ byt (F.drop 14) 9 = 6 ∧ chkI ((F.drop 14).take 20) = 0 ∧ (F.drop 14).length = 43 := by
  have hv : isV6 F = false := by unfold isV6; rw [h.net]; rfl
  have hI := (readR_0 h.r).2.2.1
  have hS := h.S
  have hP := h.P
  unfold rdI at hI; unfold rdS at hS; unfold rdP at hP
  rw [hv, if_neg (by simp), h.q] at hI hS hP
  have hb := r4_bounds hI
  rw [hS] at hb
  exact ⟨hI, hS, hP, hb.2.2.2.2.2, by rw [List.length_drop, h.len]⟩
theorem fr1 (h : FrF F) : readR ((F.set 12 8).set 13 6) = 2 := by
  have hl := h.len
  refine readR_net ?_ (by decide)
  have hw : word ((F.set 12 8).set 13 6) 12 = 2054 := by
    rw [word_two (by omega)]; decide
  unfold netR
  rw [hw, if_neg (by simp; omega), if_neg (by decide)]; rfl
theorem fr2 (h : FrF F) : readR (F.take 13) = 1 := read_cut h.r (by rw [h.len]; decide) (by rw [h.net, h.E]; decide)
theorem fr6 (h : FrF F) : readR (F.take 40) = 1 := read_cut h.r (by rw [h.len]; decide) (by rw [h.net, h.E]; decide)
theorem fr_ip {F' : List UInt8} {r : Int} (h : FrF F) (hl : F'.length = 57) (h12 : word F' 12 = word F 12) (h16 : word F' 16 = word F 16) (hr : r4 (F'.drop 14) = r) (h0 : r ≠ 0) : readR F' = r := by
  have hn := (netR_eq (F := F) (F' := F') (by rw [hl, h.len]) h12 h16).trans h.net
  refine readR_ip (by rw [hn]) (by omega) ?_ h0
  unfold rdI ipQ isV6; rw [hn]; exact hr
theorem fr3 (h : FrF F) : readR (F.set 14 101) = 3 := by
  have hl := h.len
  refine fr_ip h (by simp; omega) (set_word (by omega) (by decide)) (set_word (by omega) (by decide)) (r4_nov (by simp; omega) ?_) (by decide)
  rw [byt_drp, byt_set (by omega), if_pos rfl]; decide
theorem fr4 {x : UInt8} (h : FrF F) (hx : x = u8i (abits .u8 (· ^^^ ·) (byt F 24) 1)) : readR (F.set 24 x) = 4 := by
  have hl := h.len
  obtain ⟨i1, i2, i3, i4, i5⟩ := h.i
  refine fr_ip h (by simp; omega) (set_word (by omega) (by decide)) (set_word (by omega) (by decide)) (r4_sum i1 (by simp) (fun i hi => ?_) i2 ?_) (by decide)
  · rw [byt_drp, byt_set (by omega), if_neg (by omega), byt_drp]
  · rw [List.drop_set, if_neg (by decide)]
    exact sum_bit (by omega) i4 (by rw [byt_drp]; exact hx)
theorem fr7 {x : UInt8} (h : FrF F) (hx : x = u8i (abits .u8 (· ^^^ ·) (byt F 24) 1)) : readR ((F.set 24 x).set 46 64) = 4 := by
  have hl := h.len
  obtain ⟨i1, i2, i3, i4, i5⟩ := h.i
  refine fr_ip h (by simp; omega) ?_ ?_ (r4_sum i1 (by simp) (fun i hi => ?_) i2 ?_) (by decide)
  · rw [set_word (by simp; omega) (by decide), set_word (by omega) (by decide)]
  · rw [set_word (by simp; omega) (by decide), set_word (by omega) (by decide)]
  · rw [byt_drp, byt_set (by simp; omega), if_neg (by omega), byt_set (by omega), if_neg (by omega), byt_drp]
  · rw [List.drop_set, if_neg (by decide), List.drop_set, if_neg (by decide), List.take_set, List.set_eq_of_length_le (by simp; omega)]
    exact sum_bit (by omega) i4 (by rw [byt_drp]; exact hx)
theorem fr5 (h : FrF F) : readR (F.set 46 64) = 3 := by
  have hl := h.len
  obtain ⟨i1, i2, i3, i4, i5⟩ := h.i
  have hn := (netR_eq (F := F) (F' := F.set 46 64) (by simp) (set_word (by omega) (by decide)) (set_word (by omega) (by decide))).trans h.net
  have hd : (F.set 46 64).drop 14 = (F.drop 14).set 32 64 := by rw [List.drop_set, if_neg (by decide)]
  have ht : ((F.drop 14).set 32 64).take 20 = (F.drop 14).take 20 := by rw [List.take_set, List.set_eq_of_length_le (by simp; omega)]
  have hq : ipQ (F.set 46 64) = (F.drop 14).set 32 64 := by unfold ipQ; rw [hn, ← hd]; rfl
  have hv : isV6 (F.set 46 64) = false := by unfold isV6; rw [hn]; rfl
  have hb : ∀ i, i < 20 → byt ((F.drop 14).set 32 64) i = byt (F.drop 14) i := fun i hi => by rw [byt_set (by omega), if_neg (by omega)]
  have hE := h.E
  have hv0 : isV6 F = false := by unfold isV6; rw [h.net]; rfl
  have f1 : rdI (F.set 46 64) = 0 := by unfold rdI; rw [hv, if_neg (by simp), hq]; exact r4_eq i1 (by simp) ht i2
  have f2 : rdP (F.set 46 64) = 6 := by unfold rdP; rw [hv, if_neg (by simp), hq, hb 9 (by decide)]; exact i3
  have f3 : rdS (F.set 46 64) = 20 := by unfold rdS; rw [hv, if_neg (by simp), hq]; unfold s4 at *; rw [hb 0 (by decide)]; exact i2
  have f4 : rdE (F.set 46 64) = 43 := by
    unfold rdE at hE ⊢; rw [hv, if_neg (by simp), hq]; rw [hv0, if_neg (by simp), h.q] at hE; unfold word at *; rw [hb 2 (by decide), hb 3 (by decide)]; exact hE
  rw [readR_seg (by rw [hn]) (by simp; omega) f1, f2]
  have g1 : rdG (F.set 46 64) = (((F.drop 14).set 32 64).drop 20).take 23 := by unfold rdG; rw [hq, f3, f4]; rfl
  have g2 : byt (rdG (F.set 46 64)) 12 = 64 := by rw [g1, byt_part (by decide), byt_set (by omega), if_pos rfl]; decide
  have g3 : (rdG (F.set 46 64)).length = 23 := by rw [g1]; simp; omega
  unfold segR
  rw [if_pos rfl, g2, g3, if_neg (by decide), if_pos (by decide)]
theorem fr8 (h : FrF F) : readR (((F.set 12 134).set 13 221).set 14 69) = 3 := by
  have hl := h.len
  have hw : word (((F.set 12 134).set 13 221).set 14 69) 12 = 34525 := by
    rw [set_word (by simp; omega) (by decide)]
    rw [word_two (by omega)]; decide
  have hn : netR (((F.set 12 134).set 13 221).set 14 69) = (14, 34525, 0) := by
    unfold netR
    rw [hw, if_neg (by simp; omega), if_neg (by decide)]; rfl
  refine readR_ip (by rw [hn]) (by simp; omega) ?_ (by decide)
  unfold rdI isV6 ipQ
  rw [hn, if_pos (by decide)]
  unfold r6
  rw [if_neg (by simp; omega), if_pos]
  show byt (List.drop 14 _) 0 / 16 ≠ 6
  rw [byt_drp, byt_set (by simp; omega), if_pos rfl]; decide
end Go.Proofs.Ythbneddbigclfaa.L
