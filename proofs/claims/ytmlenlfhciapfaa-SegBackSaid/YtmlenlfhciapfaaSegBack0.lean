/- SegBack's run. -/
import Derived.Test.YtmlenlfhciapfaaSegBackM
set_option autoImplicit false
set_option maxRecDepth 100000
set_option linter.unusedVariables false
set_option linter.unusedSimpArgs false
namespace Go.Proofs.Ytmlenlfhciapfaa.L
open Go Go.Abs

theorem loopSBT (v : Bool) (n m e f g N : Int) (d S S1 S2 : List UInt8) (hl : S2.length = S.length) (hS : S.length ≤ 70000) (HB : ∀ i, i < S.length → byt S i = byt S2 i ∨ ((i = 16 ∨ i = 16 + 1) ∧ byt S i % 255 = 0 ∧ byt S2 i % 255 = 0)) :
    LSays (rSB S S1 S2 (.tup [.agg [.int .u16 e, .int .u16 f, .int .u8 g], .int .i64 0])) 6 [.ptr (some (1, 0)), .ptr (some (2, 0)), slB 3 S, slB 4 S1, slB 5 S2, .int .i64 16, .int .i64 0] (hSegBackT6 v n m e f g N d S S1 S2) (.exit 0) [.ptr (some (1, 0)), .ptr (some (2, 0)), slB 3 S, slB 4 S1, slB 5 S2, .int .i64 16, .int .i64 (S.length : Int)] (hSegBackT6 v n m e f g N d S S1 S2) := by
  refine says_up (P := Try.prog) (t := tSB S S1 S2 (.tup [.agg [.int .u16 e, .int .u16 f, .int .u8 g], .int .i64 0])) (F := 100) (n := 4) (LS := noT) (c := loopIn (bodyOf Try.prog 6) 0) (m := mSB) (fun i => [.ptr (some (1, 0)), .ptr (some (2, 0)), slB 3 S, slB 4 S1, slB 5 S2, .int .i64 16, .int .i64 (i : Int)]) (N := S.length) (by simp) rfl rfl (fun i hi => ?_) ?_
  · have w : IntKind.i64.wrap ((i : Int) + 1) = ((i + 1 : Nat) : Int) := by rw [wrapI64 (by omega)]; omega
    have tm : ∀ j, (byt S j).tmod 255 = byt S j % 255 ∧ (byt S2 j).tmod 255 = byt S2 j % 255 := fun j => by
      have h1 := byt_range S j
      have h2 := byt_range S2 j
      exact ⟨Int.tmod_eq_emod_of_nonneg h1.1, Int.tmod_eq_emod_of_nonneg h2.1⟩
    by_cases he : byt S i = byt S2 i
    · refine ⟨[(68, .bool true), (79, .bool false)], (nfSegBackRT1 v n m e f g N (i : Int) d S S1 S2).trans ?_⟩
      refine (if_pos (decide_eq_true (by omega))).trans ?_
      refine (if_pos (by first | exact True.intro | rfl | omega | (simp; done) | (simp; omega) | (simp [capOf]; done) | (simp [capOf]; omega))).trans ?_
      refine (if_pos (by first | exact True.intro | rfl | omega | (simp; done) | (simp; omega) | (simp [capOf]; done) | (simp [capOf]; omega))).trans ?_
      refine (if_pos (by first | exact True.intro | rfl | omega | (simp; done) | (simp; omega) | (simp [capOf]; done) | (simp [capOf]; omega))).trans ?_
      refine (if_pos (by first | exact True.intro | rfl | omega | (simp; done) | (simp; omega) | (simp [capOf]; done) | (simp [capOf]; omega))).trans ?_
      refine (if_pos (by simp; exact he)).trans ?_
      rw [w]; rfl
    · rcases (HB i hi).resolve_left he with ⟨rfl | rfl, h1, h2⟩
      · refine ⟨[(68, .bool true), (79, .bool true), (83, .bool false), (96, .bool false), (104, .bool false)], (nfSegBackRT2 v n m e f g N ((16 : Nat) : Int) d S S1 S2).trans ?_⟩
        refine (if_pos (decide_eq_true (by omega))).trans ?_
        refine (if_pos (by first | exact True.intro | rfl | omega | (simp; done) | (simp; omega) | (simp [capOf]; done) | (simp [capOf]; omega))).trans ?_
        refine (if_pos (by first | exact True.intro | rfl | omega | (simp; done) | (simp; omega) | (simp [capOf]; done) | (simp [capOf]; omega))).trans ?_
        refine (if_pos (by first | exact True.intro | rfl | omega | (simp; done) | (simp; omega) | (simp [capOf]; done) | (simp [capOf]; omega))).trans ?_
        refine (if_pos (by first | exact True.intro | rfl | omega | (simp; done) | (simp; omega) | (simp [capOf]; done) | (simp [capOf]; omega))).trans ?_
        refine (if_pos (by simp; exact he)).trans ?_
        refine (if_pos (by simp)).trans ?_
        refine (if_pos (by first | exact True.intro | rfl | omega | (simp; done) | (simp; omega) | (simp [capOf]; done) | (simp [capOf]; omega))).trans ?_
        refine (if_pos (by first | exact True.intro | rfl | omega | (simp; done) | (simp; omega) | (simp [capOf]; done) | (simp [capOf]; omega))).trans ?_
        refine (if_pos (by simp [tm, h1, h2])).trans ?_
        refine (if_pos (by first | exact True.intro | rfl | omega | (simp; done) | (simp; omega) | (simp [capOf]; done) | (simp [capOf]; omega))).trans ?_
        refine (if_pos (by first | exact True.intro | rfl | omega | (simp; done) | (simp; omega) | (simp [capOf]; done) | (simp [capOf]; omega))).trans ?_
        refine (if_pos (by simp [tm, h1, h2])).trans ?_
        rw [w]; rfl
      · refine ⟨[(68, .bool true), (79, .bool true), (83, .bool true), (88, .bool false), (96, .bool false), (104, .bool false)], (nfSegBackRT3 v n m e f g N ((16 + 1 : Nat) : Int) d S S1 S2).trans ?_⟩
        refine (if_pos (decide_eq_true (by omega))).trans ?_
        refine (if_pos (by first | exact True.intro | rfl | omega | (simp; done) | (simp; omega) | (simp [capOf]; done) | (simp [capOf]; omega))).trans ?_
        refine (if_pos (by first | exact True.intro | rfl | omega | (simp; done) | (simp; omega) | (simp [capOf]; done) | (simp [capOf]; omega))).trans ?_
        refine (if_pos (by first | exact True.intro | rfl | omega | (simp; done) | (simp; omega) | (simp [capOf]; done) | (simp [capOf]; omega))).trans ?_
        refine (if_pos (by first | exact True.intro | rfl | omega | (simp; done) | (simp; omega) | (simp [capOf]; done) | (simp [capOf]; omega))).trans ?_
        refine (if_pos (by simp; exact he)).trans ?_
        refine (if_pos (by simp)).trans ?_
        refine (if_pos (by simp)).trans ?_
        refine (if_pos (by first | exact True.intro | rfl | omega | (simp; done) | (simp; omega) | (simp [capOf]; done) | (simp [capOf]; omega))).trans ?_
        refine (if_pos (by first | exact True.intro | rfl | omega | (simp; done) | (simp; omega) | (simp [capOf]; done) | (simp [capOf]; omega))).trans ?_
        refine (if_pos (by simp [tm, h1, h2])).trans ?_
        refine (if_pos (by first | exact True.intro | rfl | omega | (simp; done) | (simp; omega) | (simp [capOf]; done) | (simp [capOf]; omega))).trans ?_
        refine (if_pos (by first | exact True.intro | rfl | omega | (simp; done) | (simp; omega) | (simp [capOf]; done) | (simp [capOf]; omega))).trans ?_
        refine (if_pos (by simp [tm, h1, h2])).trans ?_
        rw [w]; rfl
  · refine ⟨[(68, .bool false)], (nfSegBackRTE v n m e f g N (S.length : Int) d S S1 S2).trans ?_⟩
    refine (if_pos (decide_eq_false (by omega))).trans ?_
    rfl

theorem loopSBU (v : Bool) (n m e f g N : Int) (d S S1 S2 : List UInt8) (hl : S2.length = S.length) (hS : S.length ≤ 70000) (HB : ∀ i, i < S.length → byt S i = byt S2 i ∨ ((i = 6 ∨ i = 6 + 1) ∧ byt S i % 255 = 0 ∧ byt S2 i % 255 = 0)) :
    LSays (rSB S S1 S2 (.tup [.agg [.int .u16 e, .int .u16 f, .int .u8 g], .int .i64 0])) 6 [.ptr (some (1, 0)), .ptr (some (2, 0)), slB 3 S, slB 4 S1, slB 5 S2, .int .i64 6, .int .i64 0] (hSegBackU6 v n m e f g N d S S1 S2) (.exit 0) [.ptr (some (1, 0)), .ptr (some (2, 0)), slB 3 S, slB 4 S1, slB 5 S2, .int .i64 6, .int .i64 (S.length : Int)] (hSegBackU6 v n m e f g N d S S1 S2) := by
  refine says_up (P := Try.prog) (t := tSB S S1 S2 (.tup [.agg [.int .u16 e, .int .u16 f, .int .u8 g], .int .i64 0])) (F := 100) (n := 4) (LS := noT) (c := loopIn (bodyOf Try.prog 6) 0) (m := mSB) (fun i => [.ptr (some (1, 0)), .ptr (some (2, 0)), slB 3 S, slB 4 S1, slB 5 S2, .int .i64 6, .int .i64 (i : Int)]) (N := S.length) (by simp) rfl rfl (fun i hi => ?_) ?_
  · have w : IntKind.i64.wrap ((i : Int) + 1) = ((i + 1 : Nat) : Int) := by rw [wrapI64 (by omega)]; omega
    have tm : ∀ j, (byt S j).tmod 255 = byt S j % 255 ∧ (byt S2 j).tmod 255 = byt S2 j % 255 := fun j => by
      have h1 := byt_range S j
      have h2 := byt_range S2 j
      exact ⟨Int.tmod_eq_emod_of_nonneg h1.1, Int.tmod_eq_emod_of_nonneg h2.1⟩
    by_cases he : byt S i = byt S2 i
    · refine ⟨[(68, .bool true), (79, .bool false)], (nfSegBackRU1 v n m e f g N (i : Int) d S S1 S2).trans ?_⟩
      refine (if_pos (decide_eq_true (by omega))).trans ?_
      refine (if_pos (by first | exact True.intro | rfl | omega | (simp; done) | (simp; omega) | (simp [capOf]; done) | (simp [capOf]; omega))).trans ?_
      refine (if_pos (by first | exact True.intro | rfl | omega | (simp; done) | (simp; omega) | (simp [capOf]; done) | (simp [capOf]; omega))).trans ?_
      refine (if_pos (by first | exact True.intro | rfl | omega | (simp; done) | (simp; omega) | (simp [capOf]; done) | (simp [capOf]; omega))).trans ?_
      refine (if_pos (by first | exact True.intro | rfl | omega | (simp; done) | (simp; omega) | (simp [capOf]; done) | (simp [capOf]; omega))).trans ?_
      refine (if_pos (by simp; exact he)).trans ?_
      rw [w]; rfl
    · rcases (HB i hi).resolve_left he with ⟨rfl | rfl, h1, h2⟩
      · refine ⟨[(68, .bool true), (79, .bool true), (83, .bool false), (96, .bool false), (104, .bool false)], (nfSegBackRU2 v n m e f g N ((6 : Nat) : Int) d S S1 S2).trans ?_⟩
        refine (if_pos (decide_eq_true (by omega))).trans ?_
        refine (if_pos (by first | exact True.intro | rfl | omega | (simp; done) | (simp; omega) | (simp [capOf]; done) | (simp [capOf]; omega))).trans ?_
        refine (if_pos (by first | exact True.intro | rfl | omega | (simp; done) | (simp; omega) | (simp [capOf]; done) | (simp [capOf]; omega))).trans ?_
        refine (if_pos (by first | exact True.intro | rfl | omega | (simp; done) | (simp; omega) | (simp [capOf]; done) | (simp [capOf]; omega))).trans ?_
        refine (if_pos (by first | exact True.intro | rfl | omega | (simp; done) | (simp; omega) | (simp [capOf]; done) | (simp [capOf]; omega))).trans ?_
        refine (if_pos (by simp; exact he)).trans ?_
        refine (if_pos (by simp)).trans ?_
        refine (if_pos (by first | exact True.intro | rfl | omega | (simp; done) | (simp; omega) | (simp [capOf]; done) | (simp [capOf]; omega))).trans ?_
        refine (if_pos (by first | exact True.intro | rfl | omega | (simp; done) | (simp; omega) | (simp [capOf]; done) | (simp [capOf]; omega))).trans ?_
        refine (if_pos (by simp [tm, h1, h2])).trans ?_
        refine (if_pos (by first | exact True.intro | rfl | omega | (simp; done) | (simp; omega) | (simp [capOf]; done) | (simp [capOf]; omega))).trans ?_
        refine (if_pos (by first | exact True.intro | rfl | omega | (simp; done) | (simp; omega) | (simp [capOf]; done) | (simp [capOf]; omega))).trans ?_
        refine (if_pos (by simp [tm, h1, h2])).trans ?_
        rw [w]; rfl
      · refine ⟨[(68, .bool true), (79, .bool true), (83, .bool true), (88, .bool false), (96, .bool false), (104, .bool false)], (nfSegBackRU3 v n m e f g N ((6 + 1 : Nat) : Int) d S S1 S2).trans ?_⟩
        refine (if_pos (decide_eq_true (by omega))).trans ?_
        refine (if_pos (by first | exact True.intro | rfl | omega | (simp; done) | (simp; omega) | (simp [capOf]; done) | (simp [capOf]; omega))).trans ?_
        refine (if_pos (by first | exact True.intro | rfl | omega | (simp; done) | (simp; omega) | (simp [capOf]; done) | (simp [capOf]; omega))).trans ?_
        refine (if_pos (by first | exact True.intro | rfl | omega | (simp; done) | (simp; omega) | (simp [capOf]; done) | (simp [capOf]; omega))).trans ?_
        refine (if_pos (by first | exact True.intro | rfl | omega | (simp; done) | (simp; omega) | (simp [capOf]; done) | (simp [capOf]; omega))).trans ?_
        refine (if_pos (by simp; exact he)).trans ?_
        refine (if_pos (by simp)).trans ?_
        refine (if_pos (by simp)).trans ?_
        refine (if_pos (by first | exact True.intro | rfl | omega | (simp; done) | (simp; omega) | (simp [capOf]; done) | (simp [capOf]; omega))).trans ?_
        refine (if_pos (by first | exact True.intro | rfl | omega | (simp; done) | (simp; omega) | (simp [capOf]; done) | (simp [capOf]; omega))).trans ?_
        refine (if_pos (by simp [tm, h1, h2])).trans ?_
        refine (if_pos (by first | exact True.intro | rfl | omega | (simp; done) | (simp; omega) | (simp [capOf]; done) | (simp [capOf]; omega))).trans ?_
        refine (if_pos (by first | exact True.intro | rfl | omega | (simp; done) | (simp; omega) | (simp [capOf]; done) | (simp [capOf]; omega))).trans ?_
        refine (if_pos (by simp [tm, h1, h2])).trans ?_
        rw [w]; rfl
  · refine ⟨[(68, .bool false)], (nfSegBackRUE v n m e f g N (S.length : Int) d S S1 S2).trans ?_⟩
    refine (if_pos (decide_eq_false (by omega))).trans ?_
    rfl

theorem sbMain (v u : Bool) (n m : Int) (d : List UInt8) (hd : d.length ≤ 300) : ∃ h', Runs Try.prog 6 [.int .i64 n, .bool v, .bool u, slB 0 d, .int .i64 m] [farB d] (.bool true) h' := by
  have hC := bldC_range v u false n 2 d
  have hdp := dport_range m
  have hkp := kport_r n
  have hz : ¬ (u = true ∧ bldC v u false n 2 d = 0) := by
    rcases bldC_ok v u false n 2 d with ⟨_, h, _⟩ | ⟨h, _⟩
    · simp at h
    · exact h
  have wK : adrWf (kDst v) = true := by rw [kDst_B]; exact adrB_wf rfl
  have wA : adrWf (dAdr v m) = true := by rw [dAdr_B]; exact adrB_wf rfl
  have hh : 8 ≤ hdn u ∧ hdn u ≤ 20 := by cases u <;> decide
  obtain ⟨C, hCe⟩ : ∃ C, C = bldC v u false n 2 d := ⟨_, rfl⟩
  have hG : bldG v u false n 2 d = segB u (kport n) 80 2 C d := by rw [hCe]; rfl
  rw [← hCe] at hC hz
  have p1 := portL_segB (v := v) (u := u) (X := kDstB) (Y := dAdrB m) (d := d) (sp := kport n) (dp := 80) (C := C) (to := dport m) (fl := 2) rfl rfl (by omega) hC (by omega) (by omega)
  have r1 := pC_range (u := u) (C := C) (dp := 80) (to := dport m) (A := adW v kDstB) (B := adW v (dAdrB m))
  have hb := pC_back (v := v) (u := u) (C := C) (dp := 80) (to := dport m) (X := kDstB) (Y := dAdrB m) rfl rfl hC (by omega) (by omega) hz
  generalize pC u C 80 (dport m) (adW v kDstB) (adW v (dAdrB m)) = C1 at p1 r1 hb
  have p2 := portL_segB (v := v) (u := u) (X := dAdrB m) (Y := kDstB) (d := d) (sp := kport n) (dp := dport m) (C := C1) (to := 80) (fl := 2) rfl rfl (by omega) r1 (by omega) (by omega)
  have r2 := pC_range (u := u) (C := C1) (dp := dport m) (to := 80) (A := adW v (dAdrB m)) (B := adW v kDstB)
  generalize pC u C1 (dport m) 80 (adW v (dAdrB m)) (adW v kDstB) = C2 at p2 r2 hb
  rw [← kDst_B, ← dAdr_B] at p1 p2
  have HB := segB_same (u := u) (sp := kport n) (dp := 80) (fl := 2) (d := d) hC r2 hb
  have l0 := segB_length u (kport n) 80 2 C d
  have l1 := segB_length u (kport n) (dport m) 2 C1 d
  have l2 := segB_length u (kport n) 80 2 C2 d
  have w0 := segB_word0 (u := u) (dp := dport m) (fl := 2) (C := C1) (d := d) hkp
  have w2 := segB_word2 (u := u) (sp := kport n) (dp := dport m) (fl := 2) (C := C1) (d := d) (by omega)
  have hs := segR_segB (u := u) (sp := kport n) (dp := dport m) (fl := 2) (C := C1) (d := d) (by omega)
  have hrd := (segRead_Y hs).1
  rw [w0, w2] at hrd
  have hOf : ∀ (h : AHeap) (a : AV) (k : Nat), (bOk h a = true ∧ bOf h a = d) → h.length = k → OfR [.agg (keyV v u n), a, .bool false] h (slB k (segB u (kport n) 80 2 C d)) [ownB (segB u (kport n) 80 2 C d)] := fun h a k g hk => by rw [← hG]; exact OfR.mk v u false n d h a k g (by omega) hk
  generalize hgS : segB u (kport n) 80 2 C d = S at *
  generalize hgS1 : segB u (kport n) (dport m) 2 C1 d = S1 at *
  generalize hgS2 : segB u (kport n) 80 2 C2 d = S2 at *
  cases u
  · have hh' : hdn false = 20 := rfl
    refine Runs.valT (tSBOk S S1 S2 (.tup [.agg [.int .u16 (kport n), .int .u16 (dport m), .int .u8 (segF (prt false) S1)], .int .i64 0])) (F := 100) (n := 4) (pr := [(22, .bool false), (58, .bool false), (62, .bool false), (121, .bool true), (128, .bool true)]) (ls := lSB S S1 S2 (.tup [.agg [.int .u16 (kport n), .int .u16 (dport m), .int .u8 (segF (prt false) S1)], .int .i64 0]) S.length) (only (by kernel_rfl) (fixS_sound (tSBOk S S1 S2 (.tup [.agg [.int .u16 (kport n), .int .u16 (dport m), .int .u8 (segF (prt false) S1)], .int .i64 0])) (noLoops (by kernel_rfl)))) ?_
    refine (nfSegBackT v n m (kport n) (dport m) (segF (prt false) S1) S.length d S S1 S2 _).trans ?_
    refine (if_pos (decide_eq_false (by omega))).trans ?_
    refine (if_pos (cdec_true.2 (hOf _ _ _ (bOk_row rfl rfl rfl) rfl))).trans ?_
    refine (if_pos (cdec_true.2 (sayPort (cs := kDst v) (ds := dAdr v m) (l := S) (bOk_row rfl rfl rfl) wK wA (by simp <;> omega) (show 0 ≤ dport m ∧ dport m < 65536 by omega) p1 rfl))).trans ?_
    refine (if_pos (cdec_true.2 (sayPort (cs := dAdr v m) (ds := kDst v) (l := S1) (bOk_row rfl rfl rfl) wA wK (by simp <;> omega) (show (0 : Int) ≤ 80 ∧ (80 : Int) < 65536 by omega) p2 rfl))).trans ?_
    refine (if_pos (by rw [show S2.length = S.length by omega]; simp)).trans ?_
    refine (if_pos (decide_eq_false (by omega))).trans ?_
    refine (if_pos (cdec_true.2 (loopSBT v n m (kport n) (dport m) (segF (prt false) S1) S.length d S S1 S2 (by omega) (by omega) (fun i _ => HB i)))).trans ?_
    refine (if_pos (cdec_true.2 (saySegR (l := S1) (bOk_row rfl rfl rfl) (by simp <;> omega) hrd))).trans ?_
    refine (if_pos (beq_self_eq_true _)).trans ?_
    refine (if_pos (beq_self_eq_true _)).trans ?_
    rfl
  · have hh' : hdn true = 8 := rfl
    refine Runs.valT (tSBOk S S1 S2 (.tup [.agg [.int .u16 (kport n), .int .u16 (dport m), .int .u8 (segF (prt true) S1)], .int .i64 0])) (F := 100) (n := 4) (pr := [(22, .bool false), (58, .bool false), (62, .bool false), (121, .bool true), (128, .bool true)]) (ls := lSB S S1 S2 (.tup [.agg [.int .u16 (kport n), .int .u16 (dport m), .int .u8 (segF (prt true) S1)], .int .i64 0]) S.length) (only (by kernel_rfl) (fixS_sound (tSBOk S S1 S2 (.tup [.agg [.int .u16 (kport n), .int .u16 (dport m), .int .u8 (segF (prt true) S1)], .int .i64 0])) (noLoops (by kernel_rfl)))) ?_
    refine (nfSegBackU v n m (kport n) (dport m) (segF (prt true) S1) S.length d S S1 S2 _).trans ?_
    refine (if_pos (decide_eq_false (by omega))).trans ?_
    refine (if_pos (cdec_true.2 (hOf _ _ _ (bOk_row rfl rfl rfl) rfl))).trans ?_
    refine (if_pos (cdec_true.2 (sayPort (cs := kDst v) (ds := dAdr v m) (l := S) (bOk_row rfl rfl rfl) wK wA (by simp <;> omega) (show 0 ≤ dport m ∧ dport m < 65536 by omega) p1 rfl))).trans ?_
    refine (if_pos (cdec_true.2 (sayPort (cs := dAdr v m) (ds := kDst v) (l := S1) (bOk_row rfl rfl rfl) wA wK (by simp <;> omega) (show (0 : Int) ≤ 80 ∧ (80 : Int) < 65536 by omega) p2 rfl))).trans ?_
    refine (if_pos (by rw [show S2.length = S.length by omega]; simp)).trans ?_
    refine (if_pos (decide_eq_false (by omega))).trans ?_
    refine (if_pos (cdec_true.2 (loopSBU v n m (kport n) (dport m) (segF (prt true) S1) S.length d S S1 S2 (by omega) (by omega) (fun i _ => HB i)))).trans ?_
    refine (if_pos (cdec_true.2 (saySegR (l := S1) (bOk_row rfl rfl rfl) (by simp <;> omega) hrd))).trans ?_
    refine (if_pos (beq_self_eq_true _)).trans ?_
    refine (if_pos (beq_self_eq_true _)).trans ?_
    rfl

theorem runSegBack (n : Int) (v u : Bool) (d : List UInt8) (m : Int) (hn : -9223372036854775808 ≤ n ∧ n < 9223372036854775808) (hl : d.length ≤ maxLen) (hm : -9223372036854775808 ≤ m ∧ m < 9223372036854775808) :
    ∃ h', Runs Try.prog 6 [.int .i64 n, .bool v, .bool u, slB 0 d, .int .i64 m] [farB d] (.bool true) h' := by
  by_cases hd : d.length ≤ 300
  · exact sbMain v u n m d hd
  · refine Runs.valT0 (tSBOk [] [] [] (.tup [.agg [.int .u16 0, .int .u16 0, .int .u8 0], .int .i64 0])) (F := 100) (n := 4) (pr := [(22, .bool true)]) ?_
    refine (nfSegBackL v n m 0 0 0 0 d [] [] [] u _).trans ?_
    refine (if_pos (decide_eq_true (by omega))).trans ?_
    rfl

end Go.Proofs.Ytmlenlfhciapfaa.L
