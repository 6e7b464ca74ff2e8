/- SegGoes' run. -/
import Derived.Test.YtmlenlfhciapfaaSegGoesM
set_option autoImplicit false
set_option maxRecDepth 100000
set_option linter.unusedVariables false
set_option linter.unusedSimpArgs false
namespace Go.Proofs.Ytmlenlfhciapfaa.L
open Go Go.Abs

theorem loopSGoT (v : Bool) (b : Bool) (n m a N : Int) (d S S1 S2 : List UInt8) (hl : S1.length = S.length) (hS : S.length ≤ 70000) (HB : ∀ i, i < S.length → byt S i = byt S1 i ∨ i = 2 ∨ i = 3 ∨ i = 16 ∨ i = 16 + 1) :
    LSays (rSGo S S1 S2) 5 [.bool false, .bool b, .int .i64 a, .ptr (some (1, 0)), .ptr (some (2, 0)), slB 3 S, slB 4 S1, .int .i64 16, .int .i64 0] (hSegGoesT04 v b n m a N d S S1 S2) (.exit 0) [.bool false, .bool b, .int .i64 a, .ptr (some (1, 0)), .ptr (some (2, 0)), slB 3 S, slB 4 S1, .int .i64 16, .int .i64 (S.length : Int)] (hSegGoesT04 v b n m a N d S S1 S2) := by
  refine says_up (P := Try.prog) (t := tSGo S S1 S2) (F := 100) (n := 4) (LS := noT) (c := loopIn (bodyOf Try.prog 4) 0) (m := mSGo) (fun i => [.bool false, .bool b, .int .i64 a, .ptr (some (1, 0)), .ptr (some (2, 0)), slB 3 S, slB 4 S1, .int .i64 16, .int .i64 (i : Int)]) (N := S.length) (by simp) rfl rfl (fun i hi => ?_) ?_
  · have w : IntKind.i64.wrap ((i : Int) + 1) = ((i + 1 : Nat) : Int) := by rw [wrapI64 (by omega)]; omega
    by_cases he : byt S i = byt S1 i
    · refine ⟨[(84, .bool true), (95, .bool false)], (nfSegGoesRT01 v b n m a N (i : Int) d S S1 S2).trans ?_⟩
      refine (if_pos (decide_eq_true (by omega))).trans ?_
      iterate 4 (refine (if_pos (by first | exact True.intro | rfl | omega | (simp; done) | (simp; omega) | (simp [capOf]; done) | (simp [capOf]; omega))).trans ?_)
      refine (if_pos (by simp; exact he)).trans ?_
      rw [w]; rfl
    · rcases (HB i hi).resolve_left he with rfl | rfl | rfl | rfl
      · refine ⟨[(84, .bool true), (95, .bool true), (98, .bool false)], (nfSegGoesRT02 v b n m a N ((2 : Nat) : Int) d S S1 S2).trans ?_⟩
        refine (if_pos (decide_eq_true (by omega))).trans ?_
        iterate 4 (refine (if_pos (by first | exact True.intro | rfl | omega | (simp; done) | (simp; omega) | (simp [capOf]; done) | (simp [capOf]; omega))).trans ?_)
        refine (if_pos (by simp; exact he)).trans ?_
        refine (if_pos (by simp)).trans ?_
        rw [w]; rfl
      · refine ⟨[(84, .bool true), (95, .bool true), (98, .bool true), (102, .bool false)], (nfSegGoesRT03 v b n m a N ((3 : Nat) : Int) d S S1 S2).trans ?_⟩
        refine (if_pos (decide_eq_true (by omega))).trans ?_
        iterate 4 (refine (if_pos (by first | exact True.intro | rfl | omega | (simp; done) | (simp; omega) | (simp [capOf]; done) | (simp [capOf]; omega))).trans ?_)
        refine (if_pos (by simp; exact he)).trans ?_
        iterate 2 (refine (if_pos (by simp)).trans ?_)
        rw [w]; rfl
      · refine ⟨[(84, .bool true), (95, .bool true), (98, .bool true), (102, .bool true), (107, .bool false)], (nfSegGoesRT04 v b n m a N ((16 : Nat) : Int) d S S1 S2).trans ?_⟩
        refine (if_pos (decide_eq_true (by omega))).trans ?_
        iterate 4 (refine (if_pos (by first | exact True.intro | rfl | omega | (simp; done) | (simp; omega) | (simp [capOf]; done) | (simp [capOf]; omega))).trans ?_)
        refine (if_pos (by simp; exact he)).trans ?_
        iterate 3 (refine (if_pos (by simp)).trans ?_)
        rw [w]; rfl
      · refine ⟨[(84, .bool true), (95, .bool true), (98, .bool true), (102, .bool true), (107, .bool true), (113, .bool false)], (nfSegGoesRT05 v b n m a N ((16 + 1 : Nat) : Int) d S S1 S2).trans ?_⟩
        refine (if_pos (decide_eq_true (by omega))).trans ?_
        iterate 4 (refine (if_pos (by first | exact True.intro | rfl | omega | (simp; done) | (simp; omega) | (simp [capOf]; done) | (simp [capOf]; omega))).trans ?_)
        refine (if_pos (by simp; exact he)).trans ?_
        iterate 4 (refine (if_pos (by simp)).trans ?_)
        rw [w]; rfl
  · refine ⟨[(84, .bool false)], (nfSegGoesRT0E v b n m a N (S.length : Int) d S S1 S2).trans ?_⟩
    refine (if_pos (decide_eq_false (by omega))).trans ?_
    rfl

theorem loopSGoU (v : Bool) (n m a N : Int) (d S S1 S2 : List UInt8) (hl : S1.length = S.length) (hS : S.length ≤ 70000) (HB : ∀ i, i < S.length → byt S i = byt S1 i ∨ i = 2 ∨ i = 3 ∨ i = 6 ∨ i = 6 + 1) :
    LSays (rSGo S S1 S2) 5 [.bool true, .bool false, .int .i64 a, .ptr (some (1, 0)), .ptr (some (2, 0)), slB 3 S, slB 4 S1, .int .i64 6, .int .i64 0] (hSegGoesU04 v false n m a N d S S1 S2) (.exit 0) [.bool true, .bool false, .int .i64 a, .ptr (some (1, 0)), .ptr (some (2, 0)), slB 3 S, slB 4 S1, .int .i64 6, .int .i64 (S.length : Int)] (hSegGoesU04 v false n m a N d S S1 S2) := by
  refine says_up (P := Try.prog) (t := tSGo S S1 S2) (F := 100) (n := 4) (LS := noT) (c := loopIn (bodyOf Try.prog 4) 0) (m := mSGo) (fun i => [.bool true, .bool false, .int .i64 a, .ptr (some (1, 0)), .ptr (some (2, 0)), slB 3 S, slB 4 S1, .int .i64 6, .int .i64 (i : Int)]) (N := S.length) (by simp) rfl rfl (fun i hi => ?_) ?_
  · have w : IntKind.i64.wrap ((i : Int) + 1) = ((i + 1 : Nat) : Int) := by rw [wrapI64 (by omega)]; omega
    by_cases he : byt S i = byt S1 i
    · refine ⟨[(84, .bool true), (95, .bool false)], (nfSegGoesRU01 v false n m a N (i : Int) d S S1 S2).trans ?_⟩
      refine (if_pos (decide_eq_true (by omega))).trans ?_
      iterate 4 (refine (if_pos (by first | exact True.intro | rfl | omega | (simp; done) | (simp; omega) | (simp [capOf]; done) | (simp [capOf]; omega))).trans ?_)
      refine (if_pos (by simp; exact he)).trans ?_
      rw [w]; rfl
    · rcases (HB i hi).resolve_left he with rfl | rfl | rfl | rfl
      · refine ⟨[(84, .bool true), (95, .bool true), (98, .bool false)], (nfSegGoesRU02 v false n m a N ((2 : Nat) : Int) d S S1 S2).trans ?_⟩
        refine (if_pos (decide_eq_true (by omega))).trans ?_
        iterate 4 (refine (if_pos (by first | exact True.intro | rfl | omega | (simp; done) | (simp; omega) | (simp [capOf]; done) | (simp [capOf]; omega))).trans ?_)
        refine (if_pos (by simp; exact he)).trans ?_
        refine (if_pos (by simp)).trans ?_
        rw [w]; rfl
      · refine ⟨[(84, .bool true), (95, .bool true), (98, .bool true), (102, .bool false)], (nfSegGoesRU03 v false n m a N ((3 : Nat) : Int) d S S1 S2).trans ?_⟩
        refine (if_pos (decide_eq_true (by omega))).trans ?_
        iterate 4 (refine (if_pos (by first | exact True.intro | rfl | omega | (simp; done) | (simp; omega) | (simp [capOf]; done) | (simp [capOf]; omega))).trans ?_)
        refine (if_pos (by simp; exact he)).trans ?_
        iterate 2 (refine (if_pos (by simp)).trans ?_)
        rw [w]; rfl
      · refine ⟨[(84, .bool true), (95, .bool true), (98, .bool true), (102, .bool true), (107, .bool false)], (nfSegGoesRU04 v false n m a N ((6 : Nat) : Int) d S S1 S2).trans ?_⟩
        refine (if_pos (decide_eq_true (by omega))).trans ?_
        iterate 4 (refine (if_pos (by first | exact True.intro | rfl | omega | (simp; done) | (simp; omega) | (simp [capOf]; done) | (simp [capOf]; omega))).trans ?_)
        refine (if_pos (by simp; exact he)).trans ?_
        iterate 3 (refine (if_pos (by simp)).trans ?_)
        rw [w]; rfl
      · refine ⟨[(84, .bool true), (95, .bool true), (98, .bool true), (102, .bool true), (107, .bool true), (113, .bool false)], (nfSegGoesRU05 v false n m a N ((6 + 1 : Nat) : Int) d S S1 S2).trans ?_⟩
        refine (if_pos (decide_eq_true (by omega))).trans ?_
        iterate 4 (refine (if_pos (by first | exact True.intro | rfl | omega | (simp; done) | (simp; omega) | (simp [capOf]; done) | (simp [capOf]; omega))).trans ?_)
        refine (if_pos (by simp; exact he)).trans ?_
        iterate 4 (refine (if_pos (by simp)).trans ?_)
        rw [w]; rfl
  · refine ⟨[(84, .bool false)], (nfSegGoesRU0E v false n m a N (S.length : Int) d S S1 S2).trans ?_⟩
    refine (if_pos (decide_eq_false (by omega))).trans ?_
    rfl

theorem loopSGoB (v : Bool) (n m a N : Int) (d S S1 S2 : List UInt8) (hl : S1.length = S.length) (hS : S.length ≤ 70000) (HB : ∀ i, i < S.length → byt S i = byt S1 i ∨ i = 2 ∨ i = 3 ∨ i = 6 ∨ i = 6 + 1) :
    LSays (rSGo S S1 S2) 5 [.bool true, .bool true, .int .i64 a, .ptr (some (1, 0)), .ptr (some (2, 0)), slB 3 S, slB 4 S1, .int .i64 6, .int .i64 0] (hSegGoesB4 v true n m a N d S S1 S2) (.exit 0) [.bool true, .bool true, .int .i64 a, .ptr (some (1, 0)), .ptr (some (2, 0)), slB 3 S, slB 4 S1, .int .i64 6, .int .i64 (S.length : Int)] (hSegGoesB4 v true n m a N d S S1 S2) := by
  refine says_up (P := Try.prog) (t := tSGo S S1 S2) (F := 100) (n := 4) (LS := noT) (c := loopIn (bodyOf Try.prog 4) 0) (m := mSGo) (fun i => [.bool true, .bool true, .int .i64 a, .ptr (some (1, 0)), .ptr (some (2, 0)), slB 3 S, slB 4 S1, .int .i64 6, .int .i64 (i : Int)]) (N := S.length) (by simp) rfl rfl (fun i hi => ?_) ?_
  · have w : IntKind.i64.wrap ((i : Int) + 1) = ((i + 1 : Nat) : Int) := by rw [wrapI64 (by omega)]; omega
    by_cases he : byt S i = byt S1 i
    · refine ⟨[(84, .bool true), (95, .bool false)], (nfSegGoesRB1 v true n m a N (i : Int) d S S1 S2).trans ?_⟩
      refine (if_pos (decide_eq_true (by omega))).trans ?_
      iterate 4 (refine (if_pos (by first | exact True.intro | rfl | omega | (simp; done) | (simp; omega) | (simp [capOf]; done) | (simp [capOf]; omega))).trans ?_)
      refine (if_pos (by simp; exact he)).trans ?_
      rw [w]; rfl
    · rcases (HB i hi).resolve_left he with rfl | rfl | rfl | rfl
      · refine ⟨[(84, .bool true), (95, .bool true), (98, .bool false)], (nfSegGoesRB2 v true n m a N ((2 : Nat) : Int) d S S1 S2).trans ?_⟩
        refine (if_pos (decide_eq_true (by omega))).trans ?_
        iterate 4 (refine (if_pos (by first | exact True.intro | rfl | omega | (simp; done) | (simp; omega) | (simp [capOf]; done) | (simp [capOf]; omega))).trans ?_)
        refine (if_pos (by simp; exact he)).trans ?_
        refine (if_pos (by simp)).trans ?_
        rw [w]; rfl
      · refine ⟨[(84, .bool true), (95, .bool true), (98, .bool true), (102, .bool false)], (nfSegGoesRB3 v true n m a N ((3 : Nat) : Int) d S S1 S2).trans ?_⟩
        refine (if_pos (decide_eq_true (by omega))).trans ?_
        iterate 4 (refine (if_pos (by first | exact True.intro | rfl | omega | (simp; done) | (simp; omega) | (simp [capOf]; done) | (simp [capOf]; omega))).trans ?_)
        refine (if_pos (by simp; exact he)).trans ?_
        iterate 2 (refine (if_pos (by simp)).trans ?_)
        rw [w]; rfl
      · refine ⟨[(84, .bool true), (95, .bool true), (98, .bool true), (102, .bool true), (107, .bool false)], (nfSegGoesRB4 v true n m a N ((6 : Nat) : Int) d S S1 S2).trans ?_⟩
        refine (if_pos (decide_eq_true (by omega))).trans ?_
        iterate 4 (refine (if_pos (by first | exact True.intro | rfl | omega | (simp; done) | (simp; omega) | (simp [capOf]; done) | (simp [capOf]; omega))).trans ?_)
        refine (if_pos (by simp; exact he)).trans ?_
        iterate 3 (refine (if_pos (by simp)).trans ?_)
        rw [w]; rfl
      · refine ⟨[(84, .bool true), (95, .bool true), (98, .bool true), (102, .bool true), (107, .bool true), (113, .bool false)], (nfSegGoesRB5 v true n m a N ((6 + 1 : Nat) : Int) d S S1 S2).trans ?_⟩
        refine (if_pos (decide_eq_true (by omega))).trans ?_
        iterate 4 (refine (if_pos (by first | exact True.intro | rfl | omega | (simp; done) | (simp; omega) | (simp [capOf]; done) | (simp [capOf]; omega))).trans ?_)
        refine (if_pos (by simp; exact he)).trans ?_
        iterate 4 (refine (if_pos (by simp)).trans ?_)
        rw [w]; rfl
  · refine ⟨[(84, .bool false)], (nfSegGoesRBE v true n m a N (S.length : Int) d S S1 S2).trans ?_⟩
    refine (if_pos (decide_eq_false (by omega))).trans ?_
    rfl

theorem putCells_odd {S S' : List UInt8} {r : Nat} (h : r < S.length) (he : S.set r (u8i (abits .u8 (· ^^^ ·) (byt S r) 4)) = S') :
    putCells (List.take (S.length * 1) (bys S)) r [AV.int .u8 (abits .u8 (· ^^^ ·) (intV (List.take (S.length * 1) (bys S))[r]?) 4)] = bys S' := by
  have hx : 0 ≤ byt S r ∧ byt S r < 256 := byt_range _ _
  have h4 : 0 ≤ abits .u8 (· ^^^ ·) (byt S r) 4 ∧ abits .u8 (· ^^^ ·) (byt S r) 4 < 256 := by
    obtain ⟨x, e, hx2, _⟩ := flip_byte (x := byt S r) (q := 2) hx (by decide)
    have e2 : abits .u8 (· ^^^ ·) (byt S r) 4 = byt S r + x := e
    rw [e2]; exact hx2
  rw [bys_full, bys_get, intV_byte, putCells_byte' _ _ _ h4, he]
theorem sgMain (v u bare : Bool) (n m a : Int) (d : List UInt8) (hd : d.length ≤ 300) : ∃ h', Runs Try.prog 4 [.int .i64 n, .bool v, .bool u, .bool bare, slB 0 d, .int .i64 m, .int .i64 a] [farB d] (.bool true) h' := by
  have hC := bldC_range v u bare n 2 d
  have hdp := dport_range m
  have hkp := kport_r n
  have hok := bldC_ok v u bare n 2 d
  have wS : adrWf (kSrc v n) = true := by rw [kSrc_B]; exact adrB_wf rfl
  have wK : adrWf (kDst v) = true := by rw [kDst_B]; exact adrB_wf rfl
  have wA : adrWf (dAdr v m) = true := by rw [dAdr_B]; exact adrB_wf rfl
  have hh : 8 ≤ hdn u ∧ hdn u ≤ 20 := by cases u <;> decide
  obtain ⟨C, hCe⟩ : ∃ C, C = bldC v u bare n 2 d := ⟨_, rfl⟩
  have hG : bldG v u bare n 2 d = segB u (kport n) 80 2 C d := by rw [hCe]; rfl
  rw [← hCe] at hC hok
  have hOf : ∀ (h : AHeap) (a : AV) (k : Nat), (bOk h a = true ∧ bOf h a = d) → h.length = k → OfR [.agg (keyV v u n), a, .bool bare] h (slB k (segB u (kport n) 80 2 C d)) [ownB (segB u (kport n) 80 2 C d)] := fun h a k g hk => by rw [← hG]; exact OfR.mk v u bare n d h a k g (by omega) hk
  have p1 := portL_segB (v := v) (u := u) (X := kDstB) (Y := dAdrB m) (d := d) (sp := kport n) (dp := 80) (C := C) (to := dport m) (fl := 2) rfl rfl (by omega) hC (by omega) (by omega)
  have r1 := pC_range (u := u) (C := C) (dp := 80) (to := dport m) (A := adW v kDstB) (B := adW v (dAdrB m))
  have HB := segB_goes (u := u) (sp := kport n) (dp := 80) (dp' := dport m) (fl := 2) (d := d) hC r1
  have l0 := segB_length u (kport n) 80 2 C d
  have l1 := segB_length u (kport n) (dport m) 2 (pC u C 80 (dport m) (adW v kDstB) (adW v (dAdrB m))) d
  have goods : goodS (prt u) (segB u (kport n) 80 2 C d) (kSrc v n) (kDst v) = true ∧ goodS (prt u) (segB u (kport n) (dport m) 2 (pC u C 80 (dport m) (adW v kDstB) (adW v (dAdrB m))) d) (kSrc v n) (dAdr v m) = true := by
    rw [kSrc_B, kDst_B, dAdr_B]
    rcases hok with ⟨h1, _, h3⟩ | ⟨hz, hg⟩
    · have e1 : pC u C 80 (dport m) (adW v kDstB) (adW v (dAdrB m)) = 0 := by unfold pC; rw [if_pos ⟨h1, h3⟩]
      rw [goodS_segB rfl rfl hC (by omega), goodS_segB rfl rfl r1 (by omega), e1, decide_eq_true (show u = true ∧ C = 0 from ⟨h1, h3⟩), decide_eq_true (show u = true ∧ (0 : Int) = 0 from ⟨h1, rfl⟩)]
      exact ⟨rfl, rfl⟩
    · have := good_to (v := v) (u := u) (X := kSrcB n) (Y := kDstB) (Y' := dAdrB m) (d := d) (fl := 2) (sp := kport n) (sp' := kport n) (dp := 80) (dp' := dport m) rfl rfl rfl (by omega) hkp hkp (by omega) (by omega) hC hz hg
      rw [this.1, this.2, Int.sub_self]; exact ⟨rfl, rfl⟩
  have odd : ∀ r : Nat, r = 0 ∨ r = 1 → bare = false ∨ u = false → ∃ S' S2', (segB u (kport n) 80 2 C d).set r (u8i (abits .u8 (· ^^^ ·) (byt (segB u (kport n) 80 2 C d) r) 4)) = S' ∧ S'.length = (segB u (kport n) 80 2 C d).length ∧ S2'.length ≤ 1000 ∧ portL (prt u) S' (dport m) (kDst v) (dAdr v m) = S2' ∧
      goodS (prt u) S' (kSrc v n) (kDst v) = false ∧ goodS (prt u) S2' (kSrc v n) (dAdr v m) = false := by
    intro r hr hb
    have hg2 : ¬ (u = true ∧ C = 0) ∧ (gK v u (kSrcB n) kDstB (segB u (kport n) 80 2 0 d) + C) % 65535 = 0 := by
      rcases hok with ⟨h1, h2, _⟩ | h
      · rcases hb with hb | hb
        · rw [hb] at h2; simp at h2
        · rw [hb] at h1; simp at h1
      · exact h
    obtain ⟨sp', hs', e, hne⟩ := segB_flip (u := u) (dp := 80) (fl := 2) (C := C) (d := d) hkp r hr
    have pp := portL_segB (v := v) (u := u) (X := kDstB) (Y := dAdrB m) (d := d) (sp := sp') (dp := 80) (C := C) (to := dport m) (fl := 2) rfl rfl (by omega) hC (by omega) (by omega)
    have gg := good_to (v := v) (u := u) (X := kSrcB n) (Y := kDstB) (Y' := dAdrB m) (d := d) (fl := 2) (sp := kport n) (sp' := sp') (dp := 80) (dp' := dport m) rfl rfl rfl (by omega) hkp hs' (by omega) (by omega) hC hg2.1 hg2.2
    rw [← kDst_B, ← dAdr_B] at pp
    refine ⟨_, _, e, ?_, ?_, pp, ?_, ?_⟩
    · rw [segB_length, segB_length]
    · rw [segB_length]; omega
    · rw [kSrc_B, kDst_B, gg.1, decide_eq_false hne]
    · rw [kSrc_B, dAdr_B, gg.2, decide_eq_false hne]
  have hz2 : u = true → bare = true → byt (segB u (kport n) (dport m) 2 (pC u C 80 (dport m) (adW v kDstB) (adW v (dAdrB m))) d) 6 = 0 ∧ byt (segB u (kport n) (dport m) 2 (pC u C 80 (dport m) (adW v kDstB) (adW v (dAdrB m))) d) 7 = 0 := by
    intro h1 h2
    have hc0 : C = 0 := by rw [hCe]; unfold bldC; rw [if_pos ⟨h1, h2⟩]
    have e1 : pC u C 80 (dport m) (adW v kDstB) (adW v (dAdrB m)) = 0 := by unfold pC; rw [if_pos ⟨h1, hc0⟩]
    rw [e1]
    have hsu : sumP u = 6 := by unfold sumP; rw [if_pos h1]
    rw [segB_byt 6 (by omega), segB_byt 7 (by omega), hsu]
    exact ⟨rfl, rfl⟩
  rw [← kDst_B, ← dAdr_B] at p1
  generalize hgS1 : segB u (kport n) (dport m) 2 (pC u C 80 (dport m) (adW v kDstB) (adW v (dAdrB m))) d = S1 at *
  generalize hgS : segB u (kport n) 80 2 C d = S at *
  cases u
  · have hh' : hdn false = 20 := rfl
    rcases (show a % 2 = 0 ∨ a % 2 = 1 by omega) with ha | ha
    · obtain ⟨S', S2, ho1, ho2, ho3, ho4, ho5, ho6⟩ := odd 0 (by decide) (.inr rfl)
      refine Runs.valT (tSGoOk S S1 S2) (F := 100) (n := 4) (pr := [(25, .bool false), (52, .bool false), (56, .bool false), (137, .int .i64 0)]) (ls := lSGo S S1 S2 S.length) (only (by kernel_rfl) (fixS_sound (tSGoOk S S1 S2) (noLoops (by kernel_rfl)))) ?_
      refine (nfSegGoesT0 v bare n m a S.length d S S1 S2 _).trans ?_
      refine (if_pos (decide_eq_false (by omega))).trans ?_
      refine (if_pos (cdec_true.2 (hOf _ _ _ (bOk_row rfl rfl rfl) rfl))).trans ?_
      refine (if_pos (cdec_true.2 (sayPort (cs := kDst v) (ds := dAdr v m) (l := S) (bOk_row rfl rfl rfl) wK wA (by simp <;> omega) (show 0 ≤ dport m ∧ dport m < 65536 by omega) p1 rfl))).trans ?_
      refine (if_pos (by rw [show S1.length = S.length by omega]; simp)).trans ?_
      refine (if_pos (decide_eq_false (by omega))).trans ?_
      refine (if_pos (cdec_true.2 (sayGoodS (cs := kSrc v n) (ds := kDst v) (l := S) (bOk_row rfl rfl rfl) wS wK (by simp <;> omega) (by decide) goods.1))).trans ?_
      refine (if_pos (cdec_true.2 (sayGoodS (cs := kSrc v n) (ds := dAdr v m) (l := S1) (bOk_row rfl rfl rfl) wS wA (by simp <;> omega) (by decide) goods.2))).trans ?_
      refine (if_pos (cdec_true.2 (loopSGoT v bare n m a S.length d S S1 S2 (by omega) (by omega) (fun i _ => HB i)))).trans ?_
      iterate 3 (refine (if_pos (by first | exact True.intro | rfl | omega | (simp; done) | (simp; omega) | (simp [capOf]; done) | (simp [capOf]; omega))).trans ?_)
      refine (if_pos (⟨rfl, ha⟩)).trans ?_
      iterate 4 (refine (if_pos (by first | exact True.intro | rfl | omega | (simp; done) | (simp; omega) | (simp [capOf]; done) | (simp [capOf]; omega))).trans ?_)
      refine (if_pos (cdec_true.2 (sayPort (cs := kDst v) (ds := dAdr v m) (l := S') (bOk_row rfl (putCells_odd (S := S) (r := 0) (by omega) ho1) (by rw [ho2]; simp)) wK wA (by simp <;> omega) (show 0 ≤ dport m ∧ dport m < 65536 by omega) ho4 rfl))).trans ?_
      refine (if_pos (cdec_true.2 (sayGoodS (cs := kSrc v n) (ds := kDst v) (l := S') (bOk_row rfl (putCells_odd (S := S) (r := 0) (by omega) ho1) (by rw [ho2]; simp)) wS wK (by simp <;> omega) (by decide) ho5))).trans ?_
      refine (if_pos (cdec_true.2 (sayGoodS (cs := kSrc v n) (ds := dAdr v m) (l := S2) (bOk_row rfl rfl rfl) wS wA (by simp <;> omega) (by decide) ho6))).trans ?_
      rfl
    · obtain ⟨S', S2, ho1, ho2, ho3, ho4, ho5, ho6⟩ := odd 1 (by decide) (.inr rfl)
      refine Runs.valT (tSGoOk S S1 S2) (F := 100) (n := 4) (pr := [(25, .bool false), (52, .bool false), (56, .bool false), (137, .int .i64 1)]) (ls := lSGo S S1 S2 S.length) (only (by kernel_rfl) (fixS_sound (tSGoOk S S1 S2) (noLoops (by kernel_rfl)))) ?_
      refine (nfSegGoesT1 v bare n m a S.length d S S1 S2 _).trans ?_
      refine (if_pos (decide_eq_false (by omega))).trans ?_
      refine (if_pos (cdec_true.2 (hOf _ _ _ (bOk_row rfl rfl rfl) rfl))).trans ?_
      refine (if_pos (cdec_true.2 (sayPort (cs := kDst v) (ds := dAdr v m) (l := S) (bOk_row rfl rfl rfl) wK wA (by simp <;> omega) (show 0 ≤ dport m ∧ dport m < 65536 by omega) p1 rfl))).trans ?_
      refine (if_pos (by rw [show S1.length = S.length by omega]; simp)).trans ?_
      refine (if_pos (decide_eq_false (by omega))).trans ?_
      refine (if_pos (cdec_true.2 (sayGoodS (cs := kSrc v n) (ds := kDst v) (l := S) (bOk_row rfl rfl rfl) wS wK (by simp <;> omega) (by decide) goods.1))).trans ?_
      refine (if_pos (cdec_true.2 (sayGoodS (cs := kSrc v n) (ds := dAdr v m) (l := S1) (bOk_row rfl rfl rfl) wS wA (by simp <;> omega) (by decide) goods.2))).trans ?_
      refine (if_pos (cdec_true.2 (loopSGoT v bare n m a S.length d S S1 S2 (by omega) (by omega) (fun i _ => HB i)))).trans ?_
      iterate 3 (refine (if_pos (by first | exact True.intro | rfl | omega | (simp; done) | (simp; omega) | (simp [capOf]; done) | (simp [capOf]; omega))).trans ?_)
      refine (if_pos (⟨rfl, ha⟩)).trans ?_
      iterate 4 (refine (if_pos (by first | exact True.intro | rfl | omega | (simp; done) | (simp; omega) | (simp [capOf]; done) | (simp [capOf]; omega))).trans ?_)
      refine (if_pos (cdec_true.2 (sayPort (cs := kDst v) (ds := dAdr v m) (l := S') (bOk_row rfl (putCells_odd (S := S) (r := 1) (by omega) ho1) (by rw [ho2]; simp)) wK wA (by simp <;> omega) (show 0 ≤ dport m ∧ dport m < 65536 by omega) ho4 rfl))).trans ?_
      refine (if_pos (cdec_true.2 (sayGoodS (cs := kSrc v n) (ds := kDst v) (l := S') (bOk_row rfl (putCells_odd (S := S) (r := 1) (by omega) ho1) (by rw [ho2]; simp)) wS wK (by simp <;> omega) (by decide) ho5))).trans ?_
      refine (if_pos (cdec_true.2 (sayGoodS (cs := kSrc v n) (ds := dAdr v m) (l := S2) (bOk_row rfl rfl rfl) wS wA (by simp <;> omega) (by decide) ho6))).trans ?_
      rfl
  · have hh' : hdn true = 8 := rfl
    cases bare
    · rcases (show a % 2 = 0 ∨ a % 2 = 1 by omega) with ha | ha
      · obtain ⟨S', S2, ho1, ho2, ho3, ho4, ho5, ho6⟩ := odd 0 (by decide) (.inl rfl)
        refine Runs.valT (tSGoOk S S1 S2) (F := 100) (n := 4) (pr := [(25, .bool false), (52, .bool false), (56, .bool false), (137, .int .i64 0)]) (ls := lSGo S S1 S2 S.length) (only (by kernel_rfl) (fixS_sound (tSGoOk S S1 S2) (noLoops (by kernel_rfl)))) ?_
        refine (nfSegGoesU0 v false n m a S.length d S S1 S2 _).trans ?_
        refine (if_pos (decide_eq_false (by omega))).trans ?_
        refine (if_pos (cdec_true.2 (hOf _ _ _ (bOk_row rfl rfl rfl) rfl))).trans ?_
        refine (if_pos (cdec_true.2 (sayPort (cs := kDst v) (ds := dAdr v m) (l := S) (bOk_row rfl rfl rfl) wK wA (by simp <;> omega) (show 0 ≤ dport m ∧ dport m < 65536 by omega) p1 rfl))).trans ?_
        refine (if_pos (by rw [show S1.length = S.length by omega]; simp)).trans ?_
        refine (if_pos (decide_eq_false (by omega))).trans ?_
        refine (if_pos (cdec_true.2 (sayGoodS (cs := kSrc v n) (ds := kDst v) (l := S) (bOk_row rfl rfl rfl) wS wK (by simp <;> omega) (by decide) goods.1))).trans ?_
        refine (if_pos (cdec_true.2 (sayGoodS (cs := kSrc v n) (ds := dAdr v m) (l := S1) (bOk_row rfl rfl rfl) wS wA (by simp <;> omega) (by decide) goods.2))).trans ?_
        refine (if_pos (cdec_true.2 (loopSGoU v n m a S.length d S S1 S2 (by omega) (by omega) (fun i _ => HB i)))).trans ?_
        iterate 3 (refine (if_pos (by first | exact True.intro | rfl | omega | (simp; done) | (simp; omega) | (simp [capOf]; done) | (simp [capOf]; omega))).trans ?_)
        refine (if_pos (⟨rfl, ha⟩)).trans ?_
        iterate 4 (refine (if_pos (by first | exact True.intro | rfl | omega | (simp; done) | (simp; omega) | (simp [capOf]; done) | (simp [capOf]; omega))).trans ?_)
        refine (if_pos (cdec_true.2 (sayPort (cs := kDst v) (ds := dAdr v m) (l := S') (bOk_row rfl (putCells_odd (S := S) (r := 0) (by omega) ho1) (by rw [ho2]; simp)) wK wA (by simp <;> omega) (show 0 ≤ dport m ∧ dport m < 65536 by omega) ho4 rfl))).trans ?_
        refine (if_pos (cdec_true.2 (sayGoodS (cs := kSrc v n) (ds := kDst v) (l := S') (bOk_row rfl (putCells_odd (S := S) (r := 0) (by omega) ho1) (by rw [ho2]; simp)) wS wK (by simp <;> omega) (by decide) ho5))).trans ?_
        refine (if_pos (cdec_true.2 (sayGoodS (cs := kSrc v n) (ds := dAdr v m) (l := S2) (bOk_row rfl rfl rfl) wS wA (by simp <;> omega) (by decide) ho6))).trans ?_
        rfl
      · obtain ⟨S', S2, ho1, ho2, ho3, ho4, ho5, ho6⟩ := odd 1 (by decide) (.inl rfl)
        refine Runs.valT (tSGoOk S S1 S2) (F := 100) (n := 4) (pr := [(25, .bool false), (52, .bool false), (56, .bool false), (137, .int .i64 1)]) (ls := lSGo S S1 S2 S.length) (only (by kernel_rfl) (fixS_sound (tSGoOk S S1 S2) (noLoops (by kernel_rfl)))) ?_
        refine (nfSegGoesU1 v false n m a S.length d S S1 S2 _).trans ?_
        refine (if_pos (decide_eq_false (by omega))).trans ?_
        refine (if_pos (cdec_true.2 (hOf _ _ _ (bOk_row rfl rfl rfl) rfl))).trans ?_
        refine (if_pos (cdec_true.2 (sayPort (cs := kDst v) (ds := dAdr v m) (l := S) (bOk_row rfl rfl rfl) wK wA (by simp <;> omega) (show 0 ≤ dport m ∧ dport m < 65536 by omega) p1 rfl))).trans ?_
        refine (if_pos (by rw [show S1.length = S.length by omega]; simp)).trans ?_
        refine (if_pos (decide_eq_false (by omega))).trans ?_
        refine (if_pos (cdec_true.2 (sayGoodS (cs := kSrc v n) (ds := kDst v) (l := S) (bOk_row rfl rfl rfl) wS wK (by simp <;> omega) (by decide) goods.1))).trans ?_
        refine (if_pos (cdec_true.2 (sayGoodS (cs := kSrc v n) (ds := dAdr v m) (l := S1) (bOk_row rfl rfl rfl) wS wA (by simp <;> omega) (by decide) goods.2))).trans ?_
        refine (if_pos (cdec_true.2 (loopSGoU v n m a S.length d S S1 S2 (by omega) (by omega) (fun i _ => HB i)))).trans ?_
        iterate 3 (refine (if_pos (by first | exact True.intro | rfl | omega | (simp; done) | (simp; omega) | (simp [capOf]; done) | (simp [capOf]; omega))).trans ?_)
        refine (if_pos (⟨rfl, ha⟩)).trans ?_
        iterate 4 (refine (if_pos (by first | exact True.intro | rfl | omega | (simp; done) | (simp; omega) | (simp [capOf]; done) | (simp [capOf]; omega))).trans ?_)
        refine (if_pos (cdec_true.2 (sayPort (cs := kDst v) (ds := dAdr v m) (l := S') (bOk_row rfl (putCells_odd (S := S) (r := 1) (by omega) ho1) (by rw [ho2]; simp)) wK wA (by simp <;> omega) (show 0 ≤ dport m ∧ dport m < 65536 by omega) ho4 rfl))).trans ?_
        refine (if_pos (cdec_true.2 (sayGoodS (cs := kSrc v n) (ds := kDst v) (l := S') (bOk_row rfl (putCells_odd (S := S) (r := 1) (by omega) ho1) (by rw [ho2]; simp)) wS wK (by simp <;> omega) (by decide) ho5))).trans ?_
        refine (if_pos (cdec_true.2 (sayGoodS (cs := kSrc v n) (ds := dAdr v m) (l := S2) (bOk_row rfl rfl rfl) wS wA (by simp <;> omega) (by decide) ho6))).trans ?_
        rfl
    · have hzz := hz2 rfl rfl
      refine Runs.valT (tSGoOk S S1 []) (F := 100) (n := 4) (pr := [(25, .bool false), (52, .bool false), (56, .bool false), (122, .bool true), (127, .bool true)]) (ls := lSGo S S1 [] S.length) (only (by kernel_rfl) (fixS_sound (tSGoOk S S1 []) (noLoops (by kernel_rfl)))) ?_
      refine (nfSegGoesB v true n m a S.length d S S1 [] _).trans ?_
      refine (if_pos (decide_eq_false (by omega))).trans ?_
      refine (if_pos (cdec_true.2 (hOf _ _ _ (bOk_row rfl rfl rfl) rfl))).trans ?_
      refine (if_pos (cdec_true.2 (sayPort (cs := kDst v) (ds := dAdr v m) (l := S) (bOk_row rfl rfl rfl) wK wA (by simp <;> omega) (show 0 ≤ dport m ∧ dport m < 65536 by omega) p1 rfl))).trans ?_
      refine (if_pos (by rw [show S1.length = S.length by omega]; simp)).trans ?_
      refine (if_pos (decide_eq_false (by omega))).trans ?_
      refine (if_pos (cdec_true.2 (sayGoodS (cs := kSrc v n) (ds := kDst v) (l := S) (bOk_row rfl rfl rfl) wS wK (by simp <;> omega) (by decide) goods.1))).trans ?_
      refine (if_pos (cdec_true.2 (sayGoodS (cs := kSrc v n) (ds := dAdr v m) (l := S1) (bOk_row rfl rfl rfl) wS wA (by simp <;> omega) (by decide) goods.2))).trans ?_
      refine (if_pos (cdec_true.2 (loopSGoB v n m a S.length d S S1 [] (by omega) (by omega) (fun i _ => HB i)))).trans ?_
      iterate 2 (refine (if_pos (by first | exact True.intro | rfl | omega | (simp; done) | (simp; omega) | (simp [capOf]; done) | (simp [capOf]; omega))).trans ?_)
      refine (if_pos (by simp [hzz.1])).trans ?_
      iterate 2 (refine (if_pos (by first | exact True.intro | rfl | omega | (simp; done) | (simp; omega) | (simp [capOf]; done) | (simp [capOf]; omega))).trans ?_)
      refine (if_pos (by simp [hzz.2])).trans ?_
      rfl

theorem runSegGoes (n : Int) (v u bare : Bool) (d : List UInt8) (m a : Int) (hn : -9223372036854775808 ≤ n ∧ n < 9223372036854775808) (hl : d.length ≤ maxLen) (hm : -9223372036854775808 ≤ m ∧ m < 9223372036854775808) (ha : -9223372036854775808 ≤ a ∧ a < 9223372036854775808) :
    ∃ h', Runs Try.prog 4 [.int .i64 n, .bool v, .bool u, .bool bare, slB 0 d, .int .i64 m, .int .i64 a] [farB d] (.bool true) h' := by
  by_cases hd : d.length ≤ 300
  · exact sgMain v u bare n m a d hd
  · refine Runs.valT0 (tSGoOk [] [] []) (F := 100) (n := 4) (pr := [(25, .bool true)]) ?_
    refine (nfSegGoesL v bare n m a 0 d [] [] [] u _).trans ?_
    refine (if_pos (decide_eq_true (by omega))).trans ?_
    rfl

end Go.Proofs.Ytmlenlfhciapfaa.L
