/- FourReasons' run. -/
import Derived.Test.YtmlmdbicbpicbaaFourReasonsN
set_option autoImplicit false
set_option maxRecDepth 100000
set_option linter.unusedVariables false
set_option linter.unusedSimpArgs false
namespace Go.Proofs.Ytmlmdbicbpicbaa.L
open Go Go.Abs

def kS4 (n : Int) : List UInt8 := [10, u8i (kb1 n), u8i (kb2 n), u8i (kb3 n)]
def kD4 : List UInt8 := [192, 168, 0, 1]
def M4 (x y p q r : UInt8) : List UInt8 := [69, 0, 0, 28, 0, 0, 64, 0, 64, 6, x, y, 10, p, q, r, 192, 168, 0, 1]
def ce7 (p q r : UInt8) (w : Int) : List AV := [.int .u8 69, .int .u8 0, .int .u8 0, .int .u8 28, .int .u8 0, .int .u8 0, .int .u8 32, .int .u8 0, .int .u8 64, .int .u8 6, .int .u8 (IntKind.u8.wrap (w.fdiv 256)), .int .u8 (IntKind.u8.wrap w), .int .u8 10, .int .u8 (p.toNat : Int), .int .u8 (q.toNat : Int), .int .u8 (r.toNat : Int), .int .u8 192, .int .u8 168, .int .u8 0, .int .u8 1, .int .u8 1, .int .u8 2, .int .u8 3, .int .u8 4, .int .u8 5, .int .u8 6, .int .u8 7, .int .u8 8]
def ce8 (p q r : UInt8) (w : Int) : List AV := [.int .u8 69, .int .u8 0, .int .u8 0, .int .u8 28, .int .u8 0, .int .u8 0, .int .u8 64, .int .u8 0, .int .u8 64, .int .u8 1, .int .u8 (IntKind.u8.wrap (w.fdiv 256)), .int .u8 (IntKind.u8.wrap w), .int .u8 10, .int .u8 (p.toNat : Int), .int .u8 (q.toNat : Int), .int .u8 (r.toNat : Int), .int .u8 192, .int .u8 168, .int .u8 0, .int .u8 1, .int .u8 1, .int .u8 2, .int .u8 3, .int .u8 4, .int .u8 5, .int .u8 6, .int .u8 7, .int .u8 8]
theorem ce7_eq {p q r : UInt8} {w c : Int} (h : w = c) (h2 : IntKind.u8.wrap (c.fdiv 256) = ((u8i (c / 256)).toNat : Int)) (h3 : IntKind.u8.wrap c = ((u8i c).toNat : Int)) : ce7 p q r w = bys (B4 69 28 32 6 (u8i (c / 256)) (u8i c) p q r) := by
  subst h
  unfold ce7
  rw [h2, h3]
  rfl
theorem ce8_eq {p q r : UInt8} {w c : Int} (h : w = c) (h2 : IntKind.u8.wrap (c.fdiv 256) = ((u8i (c / 256)).toNat : Int)) (h3 : IntKind.u8.wrap c = ((u8i c).toNat : Int)) : ce8 p q r w = bys (B4 69 28 64 1 (u8i (c / 256)) (u8i c) p q r) := by
  subst h
  unfold ce8
  rw [h2, h3]
  rfl
theorem frMake (n : Int) : ∃ x y, make4 (kSrc false n) (kDst false) 6 8 = M4 x y (u8i (kb1 n)) (u8i (kb2 n)) (u8i (kb3 n)) ∧ decide (makes4 (kSrc false n) (kDst false) 8) = true ∧ chkI ((B4 69 28 64 6 x y (u8i (kb1 n)) (u8i (kb2 n)) (u8i (kb3 n))).take 20) = 0 := by
  obtain ⟨mk1, mk2⟩ := pkO_make (n := 8) (pr := 6) (X := kSrcB n) (Y := kDstB) (S := kS4 n) (D := kD4) (by omega) rfl rfl
  replace mk2 := mk2 rfl rfl
  have hv0 := hdO_make (w := 0) (L := 20 + 8) (p := u8i 6) (S := kS4 n) (D := kD4) (O := []) (by omega) rfl rfl
  generalize chkI (hdO 0 (20 + 8) (u8i 6) 0 (kS4 n) kD4 []) = c0 at *
  refine ⟨u8i (c0 / 256), u8i c0, ?_, ?_, ?_⟩
  · rw [kSrc_B, kDst_B, mk2]; rfl
  · exact decide_eq_true (by rw [kSrc_B, kDst_B]; exact mk1)
  · exact hv0

theorem fourReasons0 (n k : Int) (x y p q r : UInt8) (hp : p = u8i (kb1 n)) (hq : q = u8i (kb2 n)) (hr : r = u8i (kb3 n)) (hM : make4 (kSrc false n) (kDst false) 6 8 = M4 x y p q r) (hm : decide (makes4 (kSrc false n) (kDst false) 8) = true)
    (hv : chkI ((B4 69 28 64 6 x y p q r).take 20) = 0) (hk : k % 9 = 0) : ∃ h', Runs Try.prog 5 [.int .i64 n, .int .i64 k] [] (.bool true) h' := by
  have wS : adrWf (kSrc false n) = true := by rw [kSrc_B]; exact adrB_wf rfl
  have wD : adrWf (kDst false) = true := by rw [kDst_B]; exact adrB_wf rfl
  have g2 := bOk_row (h := hFourReasons02 n k 0 x y p q r) (k := 5) (n := 0 + (M4 x y p q r).length + 8) (r := 0) (e := false) (l := B4 69 28 64 6 x y p q r) rfl rfl rfl
  have hrd : v4Read (B4 69 28 64 6 x y p q r) = rd4 20 28 6 (kSrc false n) (kDst false) := by
      have h4 : r4 (B4 69 28 64 6 x y p q r) = 0 := by
        rw [row4_x, if_neg (by rw [hv]; simp), if_neg (by show ¬ (((64 : UInt8).toNat : Int) * 256 + ((0 : UInt8).toNat : Int)) % 16384 ≠ 0; decide), if_neg (by show ¬ (((6 : UInt8).toNat : Int) ≠ 6 ∧ ((6 : UInt8).toNat : Int) ≠ 17); decide)]
      subst hp hq hr
      unfold v4Read rd4 head4 adrZ4 z4
      simp only [h4, if_true]
      have e1 : byt (B4 69 28 64 6 x y (u8i (kb1 n)) (u8i (kb2 n)) (u8i (kb3 n))) 13 = kb1 n := u8i_val (kb1_range n)
      have e2 : byt (B4 69 28 64 6 x y (u8i (kb1 n)) (u8i (kb2 n)) (u8i (kb3 n))) 14 = kb2 n := u8i_val (kb2_range n)
      have e3 : byt (B4 69 28 64 6 x y (u8i (kb1 n)) (u8i (kb2 n)) (u8i (kb3 n))) 15 = kb3 n := u8i_val (kb3_range n)
      have f0 : s4 (B4 69 28 64 6 x y (u8i (kb1 n)) (u8i (kb2 n)) (u8i (kb3 n))) = 20 := by show ((69 : UInt8).toNat : Int) % 16 * 4 = 20; decide
      have f1 : word (B4 69 28 64 6 x y (u8i (kb1 n)) (u8i (kb2 n)) (u8i (kb3 n))) 2 = 28 := by show ((0 : UInt8).toNat : Int) * 256 + ((28 : UInt8).toNat : Int) = 28; decide
      have b9 : byt (B4 69 28 64 6 x y (u8i (kb1 n)) (u8i (kb2 n)) (u8i (kb3 n))) 9 = 6 := by show ((6 : UInt8).toNat : Int) = 6; decide
      have b12 : byt (B4 69 28 64 6 x y (u8i (kb1 n)) (u8i (kb2 n)) (u8i (kb3 n))) 12 = 10 := by show ((10 : UInt8).toNat : Int) = 10; decide
      have b16 : byt (B4 69 28 64 6 x y (u8i (kb1 n)) (u8i (kb2 n)) (u8i (kb3 n))) 16 = 192 := by show ((192 : UInt8).toNat : Int) = 192; decide
      have b17 : byt (B4 69 28 64 6 x y (u8i (kb1 n)) (u8i (kb2 n)) (u8i (kb3 n))) 17 = 168 := by show ((168 : UInt8).toNat : Int) = 168; decide
      have b18 : byt (B4 69 28 64 6 x y (u8i (kb1 n)) (u8i (kb2 n)) (u8i (kb3 n))) 18 = 0 := by show ((0 : UInt8).toNat : Int) = 0; decide
      have b19 : byt (B4 69 28 64 6 x y (u8i (kb1 n)) (u8i (kb2 n)) (u8i (kb3 n))) 19 = 1 := by show ((1 : UInt8).toNat : Int) = 1; decide
      simp only [Nat.reduceAdd, e1, e2, e3, f0, f1, b9, b12, b16, b17, b18, b19]
      rfl
  refine Runs.valT0 (tR4Ok (M4 x y p q r) 6 7 0 (rd4 20 28 6 (kSrc false n) (kDst false))) (F := 100) (n := 4) (pr := [(29, .bool false), (36, .int .i64 0), (123, .bool true)]) ?_
  refine (nfFourReasons0 n k 0 x y p q r _).trans ?_
  refine (if_pos (cdec_true.2 (say4M (cs := kSrc false n) (ds := kDst false) (M := M4 x y p q r) wS wD (by decide) hm hM rfl))).trans ?_
  refine (if_pos ⟨rfl, hk⟩).trans ?_
  refine (if_pos (cdec_true.2 (say4R g2 (show 28 ≤ 1000000000000 by decide) hrd))).trans ?_
  rfl

theorem fourReasons1 (n k : Int) (x y p q r : UInt8) (hp : p = u8i (kb1 n)) (hq : q = u8i (kb2 n)) (hr : r = u8i (kb3 n)) (hM : make4 (kSrc false n) (kDst false) 6 8 = M4 x y p q r) (hm : decide (makes4 (kSrc false n) (kDst false) 8) = true)
    (hv : chkI ((B4 69 28 64 6 x y p q r).take 20) = 0) (hk : k % 9 = 1) : ∃ h', Runs Try.prog 5 [.int .i64 n, .int .i64 k] [] (.bool true) h' := by
  have wS : adrWf (kSrc false n) = true := by rw [kSrc_B]; exact adrB_wf rfl
  have wD : adrWf (kDst false) = true := by rw [kDst_B]; exact adrB_wf rfl
  have g2 := bOk_part (h := hFourReasons12 n k 0 x y p q r) (k := 5) (o := 0) (n := 19) (r := roomOf (0 + (M4 x y p q r).length + 8) 0 0 false 19 false) (e := false) (l := B4 69 28 64 6 x y p q r) rfl rfl (show _ ≤ 28 by decide)
  rw [List.drop_zero] at g2
  have g3 := bOk_part (h := hFourReasons14 n k 0 x y p q r) (k := 5) (o := 0) (n := 19) (r := roomOf (0 + (M4 x y p q r).length + 8) 0 0 false 19 false) (e := false) (l := B4 69 28 64 6 x y p q r) rfl rfl (show _ ≤ 28 by decide)
  rw [List.drop_zero] at g3
  have hrd : v4Read ((B4 69 28 64 6 x y p q r).take 19) = rd4N 1 := v4Read_n (row4_1 x y p q r) (by decide)
  have dn : dest4 ((B4 69 28 64 6 x y p q r).take 19) (kDst false) = [] := dest4_N (.inl (by rw [show r4 ((B4 69 28 64 6 x y p q r).take 19) = 1 from (row4_1 x y p q r)]; decide))
  refine Runs.valT0 (tR4Ok (M4 x y p q r) 6 7 0 (rd4N 1)) (F := 100) (n := 4) (pr := [(29, .bool false), (36, .int .i64 1), (123, .bool true)]) ?_
  refine (nfFourReasons1 n k 0 x y p q r _).trans ?_
  refine (if_pos (cdec_true.2 (say4M (cs := kSrc false n) (ds := kDst false) (M := M4 x y p q r) wS wD (by decide) hm hM rfl))).trans ?_
  refine (if_pos ⟨rfl, hk⟩).trans ?_
  refine (if_pos (cdec_true.2 (say4R g2 (show 19 ≤ 1000000000000 by decide) hrd))).trans ?_
  refine (if_pos (cdec_true.2 (say4D (D := []) g3 (show 19 ≤ 1000000000000 by decide) wD dn rfl))).trans ?_
  rfl

theorem fourReasons2 (n k : Int) (x y p q r : UInt8) (hp : p = u8i (kb1 n)) (hq : q = u8i (kb2 n)) (hr : r = u8i (kb3 n)) (hM : make4 (kSrc false n) (kDst false) 6 8 = M4 x y p q r) (hm : decide (makes4 (kSrc false n) (kDst false) 8) = true)
    (hv : chkI ((B4 69 28 64 6 x y p q r).take 20) = 0) (hk : k % 9 = 2) : ∃ h', Runs Try.prog 5 [.int .i64 n, .int .i64 k] [] (.bool true) h' := by
  have wS : adrWf (kSrc false n) = true := by rw [kSrc_B]; exact adrB_wf rfl
  have wD : adrWf (kDst false) = true := by rw [kDst_B]; exact adrB_wf rfl
  have g2 := bOk_row (h := hFourReasons22 n k 0 x y p q r) (k := 5) (n := 0 + (M4 x y p q r).length + 8) (r := 0) (e := false) (l := B4 85 28 64 6 x y p q r) rfl rfl rfl
  have g3 := bOk_row (h := hFourReasons24 n k 0 x y p q r) (k := 5) (n := 0 + (M4 x y p q r).length + 8) (r := 0) (e := false) (l := B4 85 28 64 6 x y p q r) rfl rfl rfl
  have hrd : v4Read (B4 85 28 64 6 x y p q r) = rd4N 3 := v4Read_n (row4_2 x y p q r) (by decide)
  have dn : dest4 (B4 85 28 64 6 x y p q r) (kDst false) = [] := dest4_N (.inl (by rw [show r4 (B4 85 28 64 6 x y p q r) = 3 from (row4_2 x y p q r)]; decide))
  refine Runs.valT0 (tR4Ok (M4 x y p q r) 6 7 0 (rd4N 3)) (F := 100) (n := 4) (pr := [(29, .bool false), (36, .int .i64 2), (123, .bool true)]) ?_
  refine (nfFourReasons2 n k 0 x y p q r _).trans ?_
  refine (if_pos (cdec_true.2 (say4M (cs := kSrc false n) (ds := kDst false) (M := M4 x y p q r) wS wD (by decide) hm hM rfl))).trans ?_
  refine (if_pos ⟨rfl, hk⟩).trans ?_
  refine (if_pos (cdec_true.2 (say4R g2 (show 28 ≤ 1000000000000 by decide) hrd))).trans ?_
  refine (if_pos (cdec_true.2 (say4D (D := []) g3 (show 28 ≤ 1000000000000 by decide) wD dn rfl))).trans ?_
  rfl

theorem fourReasons3 (n k : Int) (x y p q r : UInt8) (hp : p = u8i (kb1 n)) (hq : q = u8i (kb2 n)) (hr : r = u8i (kb3 n)) (hM : make4 (kSrc false n) (kDst false) 6 8 = M4 x y p q r) (hm : decide (makes4 (kSrc false n) (kDst false) 8) = true)
    (hv : chkI ((B4 69 28 64 6 x y p q r).take 20) = 0) (hk : k % 9 = 3) : ∃ h', Runs Try.prog 5 [.int .i64 n, .int .i64 k] [] (.bool true) h' := by
  have wS : adrWf (kSrc false n) = true := by rw [kSrc_B]; exact adrB_wf rfl
  have wD : adrWf (kDst false) = true := by rw [kDst_B]; exact adrB_wf rfl
  have g2 := bOk_row (h := hFourReasons32 n k 0 x y p q r) (k := 5) (n := 0 + (M4 x y p q r).length + 8) (r := 0) (e := false) (l := B4 68 28 64 6 x y p q r) rfl rfl rfl
  have g3 := bOk_row (h := hFourReasons34 n k 0 x y p q r) (k := 5) (n := 0 + (M4 x y p q r).length + 8) (r := 0) (e := false) (l := B4 68 28 64 6 x y p q r) rfl rfl rfl
  have hrd : v4Read (B4 68 28 64 6 x y p q r) = rd4N 3 := v4Read_n (row4_3 x y p q r) (by decide)
  have dn : dest4 (B4 68 28 64 6 x y p q r) (kDst false) = [] := dest4_N (.inl (by rw [show r4 (B4 68 28 64 6 x y p q r) = 3 from (row4_3 x y p q r)]; decide))
  refine Runs.valT0 (tR4Ok (M4 x y p q r) 6 7 0 (rd4N 3)) (F := 100) (n := 4) (pr := [(29, .bool false), (36, .int .i64 3), (123, .bool true)]) ?_
  refine (nfFourReasons3 n k 0 x y p q r _).trans ?_
  refine (if_pos (cdec_true.2 (say4M (cs := kSrc false n) (ds := kDst false) (M := M4 x y p q r) wS wD (by decide) hm hM rfl))).trans ?_
  refine (if_pos ⟨rfl, hk⟩).trans ?_
  refine (if_pos (cdec_true.2 (say4R g2 (show 28 ≤ 1000000000000 by decide) hrd))).trans ?_
  refine (if_pos (cdec_true.2 (say4D (D := []) g3 (show 28 ≤ 1000000000000 by decide) wD dn rfl))).trans ?_
  rfl

theorem fourReasons4 (n k : Int) (x y p q r : UInt8) (hp : p = u8i (kb1 n)) (hq : q = u8i (kb2 n)) (hr : r = u8i (kb3 n)) (hM : make4 (kSrc false n) (kDst false) 6 8 = M4 x y p q r) (hm : decide (makes4 (kSrc false n) (kDst false) 8) = true)
    (hv : chkI ((B4 69 28 64 6 x y p q r).take 20) = 0) (hk : k % 9 = 4) : ∃ h', Runs Try.prog 5 [.int .i64 n, .int .i64 k] [] (.bool true) h' := by
  have wS : adrWf (kSrc false n) = true := by rw [kSrc_B]; exact adrB_wf rfl
  have wD : adrWf (kDst false) = true := by rw [kDst_B]; exact adrB_wf rfl
  have g2 := bOk_row (h := hFourReasons42 n k 0 x y p q r) (k := 5) (n := 0 + (M4 x y p q r).length + 8) (r := 0) (e := false) (l := B4 69 19 64 6 x y p q r) rfl rfl rfl
  have g3 := bOk_row (h := hFourReasons44 n k 0 x y p q r) (k := 5) (n := 0 + (M4 x y p q r).length + 8) (r := 0) (e := false) (l := B4 69 19 64 6 x y p q r) rfl rfl rfl
  have hrd : v4Read (B4 69 19 64 6 x y p q r) = rd4N 3 := v4Read_n (row4_4 x y p q r) (by decide)
  have dn : dest4 (B4 69 19 64 6 x y p q r) (kDst false) = [] := dest4_N (.inl (by rw [show r4 (B4 69 19 64 6 x y p q r) = 3 from (row4_4 x y p q r)]; decide))
  refine Runs.valT0 (tR4Ok (M4 x y p q r) 6 7 0 (rd4N 3)) (F := 100) (n := 4) (pr := [(29, .bool false), (36, .int .i64 4), (123, .bool true)]) ?_
  refine (nfFourReasons4 n k 0 x y p q r _).trans ?_
  refine (if_pos (cdec_true.2 (say4M (cs := kSrc false n) (ds := kDst false) (M := M4 x y p q r) wS wD (by decide) hm hM rfl))).trans ?_
  refine (if_pos ⟨rfl, hk⟩).trans ?_
  refine (if_pos (cdec_true.2 (say4R g2 (show 28 ≤ 1000000000000 by decide) hrd))).trans ?_
  refine (if_pos (cdec_true.2 (say4D (D := []) g3 (show 28 ≤ 1000000000000 by decide) wD dn rfl))).trans ?_
  rfl

theorem fourReasons5 (n k : Int) (x y p q r : UInt8) (hp : p = u8i (kb1 n)) (hq : q = u8i (kb2 n)) (hr : r = u8i (kb3 n)) (hM : make4 (kSrc false n) (kDst false) 6 8 = M4 x y p q r) (hm : decide (makes4 (kSrc false n) (kDst false) 8) = true)
    (hv : chkI ((B4 69 28 64 6 x y p q r).take 20) = 0) (hk : k % 9 = 5) : ∃ h', Runs Try.prog 5 [.int .i64 n, .int .i64 k] [] (.bool true) h' := by
  have wS : adrWf (kSrc false n) = true := by rw [kSrc_B]; exact adrB_wf rfl
  have wD : adrWf (kDst false) = true := by rw [kDst_B]; exact adrB_wf rfl
  have g2 := bOk_part (h := hFourReasons52 n k 0 x y p q r) (k := 5) (o := 0) (n := 27) (r := roomOf (0 + (M4 x y p q r).length + 8) 0 0 false 27 false) (e := false) (l := B4 69 28 64 6 x y p q r) rfl rfl (show _ ≤ 28 by decide)
  rw [List.drop_zero] at g2
  have g3 := bOk_part (h := hFourReasons54 n k 0 x y p q r) (k := 5) (o := 0) (n := 27) (r := roomOf (0 + (M4 x y p q r).length + 8) 0 0 false 27 false) (e := false) (l := B4 69 28 64 6 x y p q r) rfl rfl (show _ ≤ 28 by decide)
  rw [List.drop_zero] at g3
  have hrd : v4Read ((B4 69 28 64 6 x y p q r).take 27) = rd4N 1 := v4Read_n (row4_5 x y p q r) (by decide)
  have dn : dest4 ((B4 69 28 64 6 x y p q r).take 27) (kDst false) = [] := dest4_N (.inl (by rw [show r4 ((B4 69 28 64 6 x y p q r).take 27) = 1 from (row4_5 x y p q r)]; decide))
  refine Runs.valT0 (tR4Ok (M4 x y p q r) 6 7 0 (rd4N 1)) (F := 100) (n := 4) (pr := [(29, .bool false), (36, .int .i64 5), (123, .bool true)]) ?_
  refine (nfFourReasons5 n k 0 x y p q r _).trans ?_
  refine (if_pos (cdec_true.2 (say4M (cs := kSrc false n) (ds := kDst false) (M := M4 x y p q r) wS wD (by decide) hm hM rfl))).trans ?_
  refine (if_pos ⟨rfl, hk⟩).trans ?_
  refine (if_pos (cdec_true.2 (say4R g2 (show 27 ≤ 1000000000000 by decide) hrd))).trans ?_
  refine (if_pos (cdec_true.2 (say4D (D := []) g3 (show 27 ≤ 1000000000000 by decide) wD dn rfl))).trans ?_
  rfl

theorem fourReasons6 (n k : Int) (x y p q r : UInt8) (hp : p = u8i (kb1 n)) (hq : q = u8i (kb2 n)) (hr : r = u8i (kb3 n)) (hM : make4 (kSrc false n) (kDst false) 6 8 = M4 x y p q r) (hm : decide (makes4 (kSrc false n) (kDst false) 8) = true)
    (hv : chkI ((B4 69 28 64 6 x y p q r).take 20) = 0) (hk : k % 9 = 6) : ∃ h', Runs Try.prog 5 [.int .i64 n, .int .i64 k] [] (.bool true) h' := by
  have wS : adrWf (kSrc false n) = true := by rw [kSrc_B]; exact adrB_wf rfl
  have wD : adrWf (kDst false) = true := by rw [kDst_B]; exact adrB_wf rfl
  have hx : (0 : Int) ≤ (x.toNat : Int) ∧ (x.toNat : Int) < 256 := by have := x.toNat_lt; omega
  have hw : ((u8i (abits .u8 (· ^^^ ·) (x.toNat : Int) 1)).toNat : Int) = abits .u8 (· ^^^ ·) (x.toNat : Int) 1 := by
    obtain ⟨d, e, hd, _⟩ := flip_byte (q := 0) hx (by decide)
    have e2 : abits .u8 (· ^^^ ·) (x.toNat : Int) 1 = (x.toNat : Int) + d := e
    rw [e2, u8i_toNat]; omega
  have g2 := bOk_row (h := hFourReasons62 n k 0 x y p q r) (k := 5) (n := 0 + (M4 x y p q r).length + 8) (r := 0) (e := false) (l := B4 69 28 64 6 (u8i (abits .u8 (· ^^^ ·) (x.toNat : Int) 1)) y p q r) rfl (by show _ = bys (B4 69 28 64 6 _ y p q r); simp only [B4, bys, List.map, hw]; rfl) rfl
  have g3 := bOk_row (h := hFourReasons64 n k 0 x y p q r) (k := 5) (n := 0 + (M4 x y p q r).length + 8) (r := 0) (e := false) (l := B4 69 28 64 6 (u8i (abits .u8 (· ^^^ ·) (x.toNat : Int) 1)) y p q r) rfl (by show _ = bys (B4 69 28 64 6 _ y p q r); simp only [B4, bys, List.map, hw]; rfl) rfl
  have hrd : v4Read (B4 69 28 64 6 (u8i (abits .u8 (· ^^^ ·) (x.toNat : Int) 1)) y p q r) = rd4N 4 := v4Read_n (row4_6 hv) (by decide)
  have dn : dest4 (B4 69 28 64 6 (u8i (abits .u8 (· ^^^ ·) (x.toNat : Int) 1)) y p q r) (kDst false) = [] := dest4_N (.inl (by rw [show r4 (B4 69 28 64 6 (u8i (abits .u8 (· ^^^ ·) (x.toNat : Int) 1)) y p q r) = 4 from (row4_6 hv)]; decide))
  refine Runs.valT0 (tR4Ok (M4 x y p q r) 6 7 0 (rd4N 4)) (F := 100) (n := 4) (pr := [(29, .bool false), (36, .int .i64 6), (123, .bool true)]) ?_
  refine (nfFourReasons6 n k 0 x y p q r _).trans ?_
  refine (if_pos (cdec_true.2 (say4M (cs := kSrc false n) (ds := kDst false) (M := M4 x y p q r) wS wD (by decide) hm hM rfl))).trans ?_
  refine (if_pos ⟨rfl, hk⟩).trans ?_
  refine (if_pos (cdec_true.2 (say4R g2 (show 28 ≤ 1000000000000 by decide) hrd))).trans ?_
  refine (if_pos (cdec_true.2 (say4D (D := []) g3 (show 28 ≤ 1000000000000 by decide) wD dn rfl))).trans ?_
  rfl

theorem fourReasons7 (n k : Int) (x y p q r : UInt8) (hp : p = u8i (kb1 n)) (hq : q = u8i (kb2 n)) (hr : r = u8i (kb3 n)) (hM : make4 (kSrc false n) (kDst false) 6 8 = M4 x y p q r) (hm : decide (makes4 (kSrc false n) (kDst false) 8) = true)
    (hv : chkI ((B4 69 28 64 6 x y p q r).take 20) = 0) (hk : k % 9 = 7) : ∃ h', Runs Try.prog 5 [.int .i64 n, .int .i64 k] [] (.bool true) h' := by
  have wS : adrWf (kSrc false n) = true := by rw [kSrc_B]; exact adrB_wf rfl
  have wD : adrWf (kDst false) = true := by rw [kDst_B]; exact adrB_wf rfl
  obtain ⟨c, hc⟩ : ∃ c, c = chkI ((B4 69 28 32 6 0 0 p q r).take 20) := ⟨_, rfl⟩
  have hcr : 0 ≤ c ∧ c < 65536 := by rw [hc]; exact chkI_range _
  have hcs : sumI ((B4 69 28 32 6 0 0 p q r).take 20) 0 = 65535 - c := by rw [hc]; unfold chkI; omega
  have hcw : IntKind.i64.wrap (65535 - (65535 - c)) = c := by rw [wrapI64 (by omega)]; omega
  have hx2 : IntKind.u8.wrap (c.fdiv 256) = ((u8i (c / 256)).toNat : Int) := by rw [wrapU8_byte, Int.fdiv_eq_ediv_of_nonneg _ (by omega)]
  have hx3 : IntKind.u8.wrap c = ((u8i c).toNat : Int) := wrapU8_byte _
  have hv7 := row4_7 hc
  have gs := bOk_part (h := hFourReasons72 n k c x y p q r) (k := 5) (o := 0) (n := 20) (r := roomOf (0 + (M4 x y p q r).length + 8) 0 0 false 20 false) (e := false) (l := B4 69 28 32 6 0 0 p q r) rfl rfl (show _ ≤ 28 by decide)
  rw [List.drop_zero] at gs
  have g2 := bOk_row (h := hFourReasons74 n k c x y p q r) (k := 5) (n := 0 + (M4 x y p q r).length + 8) (r := 0) (e := false) (l := B4 69 28 32 6 (u8i (c / 256)) (u8i c) p q r) rfl (show ce7 p q r (IntKind.i64.wrap (65535 - (65535 - c))) = _ from ce7_eq hcw hx2 hx3) rfl
  have g3 := bOk_row (h := hFourReasons75 n k c x y p q r) (k := 5) (n := 0 + (M4 x y p q r).length + 8) (r := 0) (e := false) (l := B4 69 28 32 6 (u8i (c / 256)) (u8i c) p q r) rfl (show ce7 p q r (IntKind.i64.wrap (65535 - (65535 - c))) = _ from ce7_eq hcw hx2 hx3) rfl
  have hrd : v4Read (B4 69 28 32 6 (u8i (c / 256)) (u8i c) p q r) = rd4N 5 := v4Read_n (by rw [row4_x, if_neg (by rw [hv7]; simp), if_pos (by show (((32 : UInt8).toNat : Int) * 256 + ((0 : UInt8).toNat : Int)) % 16384 ≠ 0; decide)]) (by decide)
  have dn : dest4 (B4 69 28 32 6 (u8i (c / 256)) (u8i c) p q r) (kDst false) = [] := dest4_N (.inl (by rw [show r4 (B4 69 28 32 6 (u8i (c / 256)) (u8i c) p q r) = 5 from (by rw [row4_x, if_neg (by rw [hv7]; simp), if_pos (by show (((32 : UInt8).toNat : Int) * 256 + ((0 : UInt8).toNat : Int)) % 16384 ≠ 0; decide)])]; decide))
  refine Runs.valT0 (tR4Ok (M4 x y p q r) 6 7 c (rd4N 5)) (F := 100) (n := 4) (pr := [(29, .bool false), (36, .int .i64 7), (123, .bool true)]) ?_
  refine (nfFourReasons7 n k c x y p q r _).trans ?_
  refine (if_pos (cdec_true.2 (say4M (cs := kSrc false n) (ds := kDst false) (M := M4 x y p q r) wS wD (by decide) hm hM rfl))).trans ?_
  refine (if_pos ⟨rfl, hk⟩).trans ?_
  refine (if_pos (cdec_true.2 (sayRS gs (show 20 ≤ 70368744177664 ∧ (0 : Int) ≤ 0 ∧ (0 : Int) < 4294967296 by decide) hcs))).trans ?_
  refine (if_pos (cdec_true.2 (say4R g2 (show 28 ≤ 1000000000000 by decide) hrd))).trans ?_
  refine (if_pos (cdec_true.2 (say4D (D := []) g3 (show 28 ≤ 1000000000000 by decide) wD dn rfl))).trans ?_
  rfl

theorem fourReasons8 (n k : Int) (x y p q r : UInt8) (hp : p = u8i (kb1 n)) (hq : q = u8i (kb2 n)) (hr : r = u8i (kb3 n)) (hM : make4 (kSrc false n) (kDst false) 6 8 = M4 x y p q r) (hm : decide (makes4 (kSrc false n) (kDst false) 8) = true)
    (hv : chkI ((B4 69 28 64 6 x y p q r).take 20) = 0) (hk : k % 9 = 8) : ∃ h', Runs Try.prog 5 [.int .i64 n, .int .i64 k] [] (.bool true) h' := by
  have wS : adrWf (kSrc false n) = true := by rw [kSrc_B]; exact adrB_wf rfl
  have wD : adrWf (kDst false) = true := by rw [kDst_B]; exact adrB_wf rfl
  obtain ⟨c, hc⟩ : ∃ c, c = chkI ((B4 69 28 64 1 0 0 p q r).take 20) := ⟨_, rfl⟩
  have hcr : 0 ≤ c ∧ c < 65536 := by rw [hc]; exact chkI_range _
  have hcs : sumI ((B4 69 28 64 1 0 0 p q r).take 20) 0 = 65535 - c := by rw [hc]; unfold chkI; omega
  have hcw : IntKind.i64.wrap (65535 - (65535 - c)) = c := by rw [wrapI64 (by omega)]; omega
  have hx2 : IntKind.u8.wrap (c.fdiv 256) = ((u8i (c / 256)).toNat : Int) := by rw [wrapU8_byte, Int.fdiv_eq_ediv_of_nonneg _ (by omega)]
  have hx3 : IntKind.u8.wrap c = ((u8i c).toNat : Int) := wrapU8_byte _
  have hv7 := row4_7 hc
  have gs := bOk_part (h := hFourReasons82 n k c x y p q r) (k := 5) (o := 0) (n := 20) (r := roomOf (0 + (M4 x y p q r).length + 8) 0 0 false 20 false) (e := false) (l := B4 69 28 64 1 0 0 p q r) rfl rfl (show _ ≤ 28 by decide)
  rw [List.drop_zero] at gs
  have g2 := bOk_row (h := hFourReasons84 n k c x y p q r) (k := 5) (n := 0 + (M4 x y p q r).length + 8) (r := 0) (e := false) (l := B4 69 28 64 1 (u8i (c / 256)) (u8i c) p q r) rfl (show ce8 p q r (IntKind.i64.wrap (65535 - (65535 - c))) = _ from ce8_eq hcw hx2 hx3) rfl
  have g3 := bOk_row (h := hFourReasons85 n k c x y p q r) (k := 5) (n := 0 + (M4 x y p q r).length + 8) (r := 0) (e := false) (l := B4 69 28 64 1 (u8i (c / 256)) (u8i c) p q r) rfl (show ce8 p q r (IntKind.i64.wrap (65535 - (65535 - c))) = _ from ce8_eq hcw hx2 hx3) rfl
  have hrd : v4Read (B4 69 28 64 1 (u8i (c / 256)) (u8i c) p q r) = rd4N 6 := v4Read_n (by rw [row4_x, if_neg (by rw [hv7]; simp), if_neg (by show ¬ (((64 : UInt8).toNat : Int) * 256 + ((0 : UInt8).toNat : Int)) % 16384 ≠ 0; decide), if_pos (by show (((1 : UInt8).toNat : Int) ≠ 6 ∧ ((1 : UInt8).toNat : Int) ≠ 17); decide)]) (by decide)
  have dn : dest4 (B4 69 28 64 1 (u8i (c / 256)) (u8i c) p q r) (kDst false) = [] := dest4_N (.inl (by rw [show r4 (B4 69 28 64 1 (u8i (c / 256)) (u8i c) p q r) = 6 from (by rw [row4_x, if_neg (by rw [hv7]; simp), if_neg (by show ¬ (((64 : UInt8).toNat : Int) * 256 + ((0 : UInt8).toNat : Int)) % 16384 ≠ 0; decide), if_pos (by show (((1 : UInt8).toNat : Int) ≠ 6 ∧ ((1 : UInt8).toNat : Int) ≠ 17); decide)])]; decide))
  refine Runs.valT0 (tR4Ok (M4 x y p q r) 6 7 c (rd4N 6)) (F := 100) (n := 4) (pr := [(29, .bool false), (36, .int .i64 8), (123, .bool true)]) ?_
  refine (nfFourReasons8 n k c x y p q r _).trans ?_
  refine (if_pos (cdec_true.2 (say4M (cs := kSrc false n) (ds := kDst false) (M := M4 x y p q r) wS wD (by decide) hm hM rfl))).trans ?_
  refine (if_pos ⟨rfl, hk⟩).trans ?_
  refine (if_pos (cdec_true.2 (sayRS gs (show 20 ≤ 70368744177664 ∧ (0 : Int) ≤ 0 ∧ (0 : Int) < 4294967296 by decide) hcs))).trans ?_
  refine (if_pos (cdec_true.2 (say4R g2 (show 28 ≤ 1000000000000 by decide) hrd))).trans ?_
  refine (if_pos (cdec_true.2 (say4D (D := []) g3 (show 28 ≤ 1000000000000 by decide) wD dn rfl))).trans ?_
  rfl

theorem runFourReasons (n k : Int) (hn : -9223372036854775808 ≤ n ∧ n < 9223372036854775808) (hk : -9223372036854775808 ≤ k ∧ k < 9223372036854775808) : ∃ h', Runs Try.prog 5 [.int .i64 n, .int .i64 k] [] (.bool true) h' := by
  obtain ⟨x, y, hM, hm, hv⟩ := frMake n
  have : k % 9 = 0 ∨ k % 9 = 1 ∨ k % 9 = 2 ∨ k % 9 = 3 ∨ k % 9 = 4 ∨ k % 9 = 5 ∨ k % 9 = 6 ∨ k % 9 = 7 ∨ k % 9 = 8 := by omega
  rcases this with h | h | h | h | h | h | h | h | h
  · exact fourReasons0 n k x y _ _ _ rfl rfl rfl hM hm hv h
  · exact fourReasons1 n k x y _ _ _ rfl rfl rfl hM hm hv h
  · exact fourReasons2 n k x y _ _ _ rfl rfl rfl hM hm hv h
  · exact fourReasons3 n k x y _ _ _ rfl rfl rfl hM hm hv h
  · exact fourReasons4 n k x y _ _ _ rfl rfl rfl hM hm hv h
  · exact fourReasons5 n k x y _ _ _ rfl rfl rfl hM hm hv h
  · exact fourReasons6 n k x y _ _ _ rfl rfl rfl hM hm hv h
  · exact fourReasons7 n k x y _ _ _ rfl rfl rfl hM hm hv h
  · exact fourReasons8 n k x y _ _ _ rfl rfl rfl hM hm hv h

end Go.Proofs.Ytmlmdbicbpicbaa.L
