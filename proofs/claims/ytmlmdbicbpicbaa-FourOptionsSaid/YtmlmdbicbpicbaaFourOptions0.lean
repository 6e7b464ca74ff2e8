/- FourOptions' run. -/
import Derived.Test.YtmlmdbicbpicbaaFourOptionsM
set_option autoImplicit false
set_option maxRecDepth 100000
set_option linter.unusedVariables false
set_option linter.unusedSimpArgs false
namespace Go.Proofs.Ytmlmdbicbpicbaa.L
open Go Go.Abs

theorem fdivC (c : Int) (hc : 0 ≤ c ∧ c < 65536) : IntKind.u8.wrap ((IntKind.i64.wrap (65535 - (65535 - c))).fdiv 256) = ((u8i (c / 256)).toNat : Int) ∧ IntKind.u8.wrap (IntKind.i64.wrap (65535 - (65535 - c))) = ((u8i c).toNat : Int) := by
  have e : IntKind.i64.wrap (65535 - (65535 - c)) = c := by rw [wrapI64 (by omega)]; omega
  rw [e, wrapU8_byte, wrapU8_byte, Int.fdiv_eq_ediv_of_nonneg _ (by omega)]
  exact ⟨rfl, rfl⟩
theorem txtEq {l m : List UInt8} {cs : List AV} {a b : Nat} (hc : cs = bys m) (ha : l.length - 20 ≤ a) (hb : m.length - 20 ≤ b) (h : l.drop 20 = m.drop 20) : List.map byteD (List.take a (List.drop 20 (bys l))) = List.map byteD (List.take b (List.drop 20 cs)) := by
  subst hc
  simp only [bys_drop, bys_take, bys_byteD]
  rw [List.take_of_length_le (by simp; omega), List.take_of_length_le (by simp; omega), h]
theorem allB {m : List UInt8} {cs : List AV} {a b : Nat} (hc : cs = bys m) : (List.take a (List.drop b cs)).all isByte = true := by
  subst hc; simp
theorem lenB {m : List UInt8} {cs : List AV} {a : Nat} (hc : cs = bys m) (h : a ≤ m.length) : a ≤ cs.length := by
  subst hc; simpa using h

theorem foWalk0 (n k m c L : Int) (a b x y p q r x1 y1 x2 y2 t : UInt8) (d : List UInt8) (hd : d.length ≤ 300) (hk : k % 11 = 0) (hL : L = 20 + d.length)
    (hM : make4 (kSrc false n) (kDst false) 6 (0 + d.length) = [69, 0, a, b, 0, 0, 64, 0, 64, 6, x, y, 10, p, q, r, 192, 168, 0, 1]) (hm : decide (makes4 (kSrc false n) (kDst false) (0 + d.length)) = true)
    (hcs : sumI [69, 0, a, b, 0, 0, 64, 0, 64, 6, 0, 0, 10, p, q, r, 192, 168, 0, 1] 0 = 65535 - c) (hw1 : IntKind.u8.wrap ((IntKind.i64.wrap (65535 - (65535 - c))).fdiv 256) = (x1.toNat : Int)) (hw2 : IntKind.u8.wrap (IntKind.i64.wrap (65535 - (65535 - c))) = (y1.toNat : Int))
    (hr1 : v4Read ([69, 0, a, b, 0, 0, 64, 0, 64, 6, x1, y1, 10, p, q, r, 192, 168, 0, 1] ++ d) = rd4 20 L 6 (kSrc false n) (kDst false)) (hdd : dest4 ([69, 0, a, b, 0, 0, 64, 0, 64, 6, x1, y1, 10, p, q, r, 192, 168, 0, 1] ++ d) (dAdr false m) = ([69, 0, a, b, 0, 0, 64, 0, 64, 6, x2, y2, 10, p, q, r, 172, 16, 0, t] ++ (List.replicate 0 1 ++ d))) (hr2 : v4Read ([69, 0, a, b, 0, 0, 64, 0, 64, 6, x2, y2, 10, p, q, r, 172, 16, 0, t] ++ (List.replicate 0 1 ++ d)) = rd4 20 L 6 (kSrc false n) (dAdr false m)) :
    ∃ h', Runs Try.prog 6 [.int .i64 n, .int .i64 k, slB 0 d, .int .i64 m] [farB d] (.bool true) h' := by
  have wS : adrWf (kSrc false n) = true := by rw [kSrc_B]; exact adrB_wf rfl
  have wD : adrWf (kDst false) = true := by rw [kDst_B]; exact adrB_wf rfl
  have wT : adrWf (dAdr false m) = true := by rw [dAdr_B]; exact adrB_wf rfl
  have hwr : IntKind.i64.wrap (0 + (d.length : Int)) = 0 + d.length := wrapI64 (by omega)
  refine Runs.valT0 (tO4Ok 3 [69, 0, a, b, 0, 0, 64, 0, 64, 6, x, y, 10, p, q, r, 192, 168, 0, 1] ([69, 0, a, b, 0, 0, 64, 0, 64, 6, x2, y2, 10, p, q, r, 172, 16, 0, t] ++ (List.replicate 0 1 ++ d)) c (rd4 20 L 6 (kSrc false n) (kDst false)) (rd4 20 L 6 (kSrc false n) (dAdr false m))) (F := 100) (n := 4) (pr := [(24, .bool false), (27, .int .i64 0), (103, .bool true), (110, .bool true), (121, .bool true), (127, .bool true), (134, .bool true), (143, .bool true)]) ?_
  refine (nfFourOptions0 n k m c L a b x y p q r x2 y2 t d _).trans ?_
  refine (if_pos (decide_eq_false (by omega))).trans ?_
  refine (if_pos ⟨rfl, hk⟩).trans ?_
  refine (if_pos (cdec_true.2 (say4M (cs := kSrc false n) (ds := kDst false) (M := [69, 0, a, b, 0, 0, 64, 0, 64, 6, x, y, 10, p, q, r, 192, 168, 0, 1]) wS wD (by decide) ?_ ?_ rfl))).trans ?_
  · rw [hwr]; exact hm
  · rw [hwr]; exact hM
  refine (if_pos (cdec_true.2 (sayRS (l := [69, 0, a, b, 0, 0, 64, 0, 64, 6, 0, 0, 10, p, q, r, 192, 168, 0, 1]) (bOk_row rfl rfl rfl) (by simp <;> omega) hcs))).trans ?_
  refine (if_pos (by simp <;> omega)).trans ?_
  refine (if_pos ⟨by simp <;> omega, rfl, by simp <;> omega⟩).trans ?_
  refine (if_pos ⟨rfl, rfl, .inr rfl, rfl, by simp⟩).trans ?_
  have hcell : ∀ cs : List AV, cs = [AV.int IntKind.u8 69, AV.int IntKind.u8 0, AV.int IntKind.u8 (a.toNat : Int), AV.int IntKind.u8 (b.toNat : Int), AV.int IntKind.u8 0, AV.int IntKind.u8 0, AV.int IntKind.u8 64, AV.int IntKind.u8 0, AV.int IntKind.u8 64, AV.int IntKind.u8 6, AV.int IntKind.u8 (IntKind.u8.wrap ((IntKind.i64.wrap (65535 - (65535 - c))).fdiv 256)), AV.int IntKind.u8 (IntKind.u8.wrap (IntKind.i64.wrap (65535 - (65535 - c)))), AV.int IntKind.u8 10, AV.int IntKind.u8 (p.toNat : Int), AV.int IntKind.u8 (q.toNat : Int), AV.int IntKind.u8 (r.toNat : Int), AV.int IntKind.u8 192, AV.int IntKind.u8 168, AV.int IntKind.u8 0, AV.int IntKind.u8 1] ++ List.take (d.length * 1) (bys d) → cs = bys ([69, 0, a, b, 0, 0, 64, 0, 64, 6, x1, y1, 10, p, q, r, 192, 168, 0, 1] ++ d) := by
    intro cs h
    rw [h, hw1, hw2, bys_full]; rfl
  refine (if_pos (cdec_true.2 (say4R (l := ([69, 0, a, b, 0, 0, 64, 0, 64, 6, x1, y1, 10, p, q, r, 192, 168, 0, 1] ++ d)) (bOk_row rfl (hcell _ rfl) (by simp <;> omega)) (by simp <;> omega) hr1))).trans ?_
  refine (if_pos (cdec_true.2 (say4D (cs := dAdr false m) (l := ([69, 0, a, b, 0, 0, 64, 0, 64, 6, x1, y1, 10, p, q, r, 192, 168, 0, 1] ++ d)) (bOk_row rfl (hcell _ rfl) (by simp <;> omega)) (by simp <;> omega) wT hdd rfl))).trans ?_
  refine (if_pos (cdec_true.2 (say4R (l := ([69, 0, a, b, 0, 0, 64, 0, 64, 6, x2, y2, 10, p, q, r, 172, 16, 0, t] ++ (List.replicate 0 1 ++ d))) (bOk_row rfl rfl rfl) (by simp <;> omega) hr2))).trans ?_
  refine (if_pos (by simp <;> omega)).trans ?_
  refine (if_pos (by simp <;> omega)).trans ?_
  refine (if_pos (by simp <;> omega)).trans ?_
  refine (if_pos ⟨by decide, by simp <;> omega⟩).trans ?_
  refine (if_pos (by simp <;> omega)).trans ?_
  refine (if_pos (allB rfl)).trans ?_
  refine (if_pos ⟨by decide, by simp <;> omega⟩).trans ?_
  refine (if_pos (lenB (hcell _ rfl) (by simp <;> omega))).trans ?_
  refine (if_pos (allB (hcell _ rfl))).trans ?_
  refine (if_pos (decide_eq_true (txtEq (hcell _ rfl) (by simp <;> omega) (by simp <;> omega) rfl))).trans ?_
  rfl

theorem foWalk1 (n k m c L : Int) (a b x y p q r x1 y1 x2 y2 t : UInt8) (d : List UInt8) (hd : d.length ≤ 300) (hk : k % 11 = 1) (hL : L = 24 + d.length)
    (hM : make4 (kSrc false n) (kDst false) 6 (4 + d.length) = [69, 0, a, b, 0, 0, 64, 0, 64, 6, x, y, 10, p, q, r, 192, 168, 0, 1]) (hm : decide (makes4 (kSrc false n) (kDst false) (4 + d.length)) = true)
    (hcs : sumI [70, 0, a, b, 0, 0, 64, 0, 64, 6, 0, 0, 10, p, q, r, 192, 168, 0, 1, 1, 1, 1, 1] 0 = 65535 - c) (hw1 : IntKind.u8.wrap ((IntKind.i64.wrap (65535 - (65535 - c))).fdiv 256) = (x1.toNat : Int)) (hw2 : IntKind.u8.wrap (IntKind.i64.wrap (65535 - (65535 - c))) = (y1.toNat : Int))
    (hr1 : v4Read ([70, 0, a, b, 0, 0, 64, 0, 64, 6, x1, y1, 10, p, q, r, 192, 168, 0, 1, 1, 1, 1, 1] ++ d) = rd4 24 L 6 (kSrc false n) (kDst false)) (hdd : dest4 ([70, 0, a, b, 0, 0, 64, 0, 64, 6, x1, y1, 10, p, q, r, 192, 168, 0, 1, 1, 1, 1, 1] ++ d) (dAdr false m) = ([70, 0, a, b, 0, 0, 64, 0, 64, 6, x2, y2, 10, p, q, r, 172, 16, 0, t] ++ (List.replicate 4 1 ++ d))) (hr2 : v4Read ([70, 0, a, b, 0, 0, 64, 0, 64, 6, x2, y2, 10, p, q, r, 172, 16, 0, t] ++ (List.replicate 4 1 ++ d)) = rd4 24 L 6 (kSrc false n) (dAdr false m)) :
    ∃ h', Runs Try.prog 6 [.int .i64 n, .int .i64 k, slB 0 d, .int .i64 m] [farB d] (.bool true) h' := by
  have wS : adrWf (kSrc false n) = true := by rw [kSrc_B]; exact adrB_wf rfl
  have wD : adrWf (kDst false) = true := by rw [kDst_B]; exact adrB_wf rfl
  have wT : adrWf (dAdr false m) = true := by rw [dAdr_B]; exact adrB_wf rfl
  have hwr : IntKind.i64.wrap (4 + (d.length : Int)) = 4 + d.length := wrapI64 (by omega)
  refine Runs.valT0 (tO4Ok 11 [69, 0, a, b, 0, 0, 64, 0, 64, 6, x, y, 10, p, q, r, 192, 168, 0, 1] ([70, 0, a, b, 0, 0, 64, 0, 64, 6, x2, y2, 10, p, q, r, 172, 16, 0, t] ++ (List.replicate 4 1 ++ d)) c (rd4 24 L 6 (kSrc false n) (kDst false)) (rd4 24 L 6 (kSrc false n) (dAdr false m))) (F := 100) (n := 4) (pr := [(24, .bool false), (27, .int .i64 1), (103, .bool true), (110, .bool true), (121, .bool true), (127, .bool true), (134, .bool true), (143, .bool true)]) ?_
  refine (nfFourOptions1 n k m c L a b x y p q r x2 y2 t d _).trans ?_
  refine (if_pos (decide_eq_false (by omega))).trans ?_
  refine (if_pos ⟨rfl, hk⟩).trans ?_
  refine (if_pos (cdec_true.2 (say4M (cs := kSrc false n) (ds := kDst false) (M := [69, 0, a, b, 0, 0, 64, 0, 64, 6, x, y, 10, p, q, r, 192, 168, 0, 1]) wS wD (by decide) ?_ ?_ rfl))).trans ?_
  · rw [hwr]; exact hm
  · rw [hwr]; exact hM
  refine (if_pos (cdec_true.2 (sayRS (l := [70, 0, a, b, 0, 0, 64, 0, 64, 6, 0, 0, 10, p, q, r, 192, 168, 0, 1, 1, 1, 1, 1]) (bOk_row rfl rfl rfl) (by simp <;> omega) hcs))).trans ?_
  refine (if_pos (by simp <;> omega)).trans ?_
  refine (if_pos ⟨by simp <;> omega, rfl, by simp <;> omega⟩).trans ?_
  refine (if_pos ⟨rfl, rfl, .inr rfl, rfl, by simp⟩).trans ?_
  have hcell : ∀ cs : List AV, cs = [AV.int IntKind.u8 70, AV.int IntKind.u8 0, AV.int IntKind.u8 (a.toNat : Int), AV.int IntKind.u8 (b.toNat : Int), AV.int IntKind.u8 0, AV.int IntKind.u8 0, AV.int IntKind.u8 64, AV.int IntKind.u8 0, AV.int IntKind.u8 64, AV.int IntKind.u8 6, AV.int IntKind.u8 (IntKind.u8.wrap ((IntKind.i64.wrap (65535 - (65535 - c))).fdiv 256)), AV.int IntKind.u8 (IntKind.u8.wrap (IntKind.i64.wrap (65535 - (65535 - c)))), AV.int IntKind.u8 10, AV.int IntKind.u8 (p.toNat : Int), AV.int IntKind.u8 (q.toNat : Int), AV.int IntKind.u8 (r.toNat : Int), AV.int IntKind.u8 192, AV.int IntKind.u8 168, AV.int IntKind.u8 0, AV.int IntKind.u8 1, AV.int IntKind.u8 1, AV.int IntKind.u8 1, AV.int IntKind.u8 1, AV.int IntKind.u8 1] ++ List.take (d.length * 1) (bys d) → cs = bys ([70, 0, a, b, 0, 0, 64, 0, 64, 6, x1, y1, 10, p, q, r, 192, 168, 0, 1, 1, 1, 1, 1] ++ d) := by
    intro cs h
    rw [h, hw1, hw2, bys_full]; rfl
  refine (if_pos (cdec_true.2 (say4R (l := ([70, 0, a, b, 0, 0, 64, 0, 64, 6, x1, y1, 10, p, q, r, 192, 168, 0, 1, 1, 1, 1, 1] ++ d)) (bOk_row rfl (hcell _ rfl) (by simp <;> omega)) (by simp <;> omega) hr1))).trans ?_
  refine (if_pos (cdec_true.2 (say4D (cs := dAdr false m) (l := ([70, 0, a, b, 0, 0, 64, 0, 64, 6, x1, y1, 10, p, q, r, 192, 168, 0, 1, 1, 1, 1, 1] ++ d)) (bOk_row rfl (hcell _ rfl) (by simp <;> omega)) (by simp <;> omega) wT hdd rfl))).trans ?_
  refine (if_pos (cdec_true.2 (say4R (l := ([70, 0, a, b, 0, 0, 64, 0, 64, 6, x2, y2, 10, p, q, r, 172, 16, 0, t] ++ (List.replicate 4 1 ++ d))) (bOk_row rfl rfl rfl) (by simp <;> omega) hr2))).trans ?_
  refine (if_pos (by simp <;> omega)).trans ?_
  refine (if_pos (by simp <;> omega)).trans ?_
  refine (if_pos (by simp <;> omega)).trans ?_
  refine (if_pos ⟨by decide, by simp <;> omega⟩).trans ?_
  refine (if_pos (by simp <;> omega)).trans ?_
  refine (if_pos (allB rfl)).trans ?_
  refine (if_pos ⟨by decide, by simp <;> omega⟩).trans ?_
  refine (if_pos (lenB (hcell _ rfl) (by simp <;> omega))).trans ?_
  refine (if_pos (allB (hcell _ rfl))).trans ?_
  refine (if_pos (decide_eq_true (txtEq (hcell _ rfl) (by simp <;> omega) (by simp <;> omega) rfl))).trans ?_
  rfl

theorem foWalk2 (n k m c L : Int) (a b x y p q r x1 y1 x2 y2 t : UInt8) (d : List UInt8) (hd : d.length ≤ 300) (hk : k % 11 = 2) (hL : L = 28 + d.length)
    (hM : make4 (kSrc false n) (kDst false) 6 (8 + d.length) = [69, 0, a, b, 0, 0, 64, 0, 64, 6, x, y, 10, p, q, r, 192, 168, 0, 1]) (hm : decide (makes4 (kSrc false n) (kDst false) (8 + d.length)) = true)
    (hcs : sumI [71, 0, a, b, 0, 0, 64, 0, 64, 6, 0, 0, 10, p, q, r, 192, 168, 0, 1, 1, 1, 1, 1, 1, 1, 1, 1] 0 = 65535 - c) (hw1 : IntKind.u8.wrap ((IntKind.i64.wrap (65535 - (65535 - c))).fdiv 256) = (x1.toNat : Int)) (hw2 : IntKind.u8.wrap (IntKind.i64.wrap (65535 - (65535 - c))) = (y1.toNat : Int))
    (hr1 : v4Read ([71, 0, a, b, 0, 0, 64, 0, 64, 6, x1, y1, 10, p, q, r, 192, 168, 0, 1, 1, 1, 1, 1, 1, 1, 1, 1] ++ d) = rd4 28 L 6 (kSrc false n) (kDst false)) (hdd : dest4 ([71, 0, a, b, 0, 0, 64, 0, 64, 6, x1, y1, 10, p, q, r, 192, 168, 0, 1, 1, 1, 1, 1, 1, 1, 1, 1] ++ d) (dAdr false m) = ([71, 0, a, b, 0, 0, 64, 0, 64, 6, x2, y2, 10, p, q, r, 172, 16, 0, t] ++ (List.replicate 8 1 ++ d))) (hr2 : v4Read ([71, 0, a, b, 0, 0, 64, 0, 64, 6, x2, y2, 10, p, q, r, 172, 16, 0, t] ++ (List.replicate 8 1 ++ d)) = rd4 28 L 6 (kSrc false n) (dAdr false m)) :
    ∃ h', Runs Try.prog 6 [.int .i64 n, .int .i64 k, slB 0 d, .int .i64 m] [farB d] (.bool true) h' := by
  have wS : adrWf (kSrc false n) = true := by rw [kSrc_B]; exact adrB_wf rfl
  have wD : adrWf (kDst false) = true := by rw [kDst_B]; exact adrB_wf rfl
  have wT : adrWf (dAdr false m) = true := by rw [dAdr_B]; exact adrB_wf rfl
  have hwr : IntKind.i64.wrap (8 + (d.length : Int)) = 8 + d.length := wrapI64 (by omega)
  refine Runs.valT0 (tO4Ok 19 [69, 0, a, b, 0, 0, 64, 0, 64, 6, x, y, 10, p, q, r, 192, 168, 0, 1] ([71, 0, a, b, 0, 0, 64, 0, 64, 6, x2, y2, 10, p, q, r, 172, 16, 0, t] ++ (List.replicate 8 1 ++ d)) c (rd4 28 L 6 (kSrc false n) (kDst false)) (rd4 28 L 6 (kSrc false n) (dAdr false m))) (F := 100) (n := 4) (pr := [(24, .bool false), (27, .int .i64 2), (103, .bool true), (110, .bool true), (121, .bool true), (127, .bool true), (134, .bool true), (143, .bool true)]) ?_
  refine (nfFourOptions2 n k m c L a b x y p q r x2 y2 t d _).trans ?_
  refine (if_pos (decide_eq_false (by omega))).trans ?_
  refine (if_pos ⟨rfl, hk⟩).trans ?_
  refine (if_pos (cdec_true.2 (say4M (cs := kSrc false n) (ds := kDst false) (M := [69, 0, a, b, 0, 0, 64, 0, 64, 6, x, y, 10, p, q, r, 192, 168, 0, 1]) wS wD (by decide) ?_ ?_ rfl))).trans ?_
  · rw [hwr]; exact hm
  · rw [hwr]; exact hM
  refine (if_pos (cdec_true.2 (sayRS (l := [71, 0, a, b, 0, 0, 64, 0, 64, 6, 0, 0, 10, p, q, r, 192, 168, 0, 1, 1, 1, 1, 1, 1, 1, 1, 1]) (bOk_row rfl rfl rfl) (by simp <;> omega) hcs))).trans ?_
  refine (if_pos (by simp <;> omega)).trans ?_
  refine (if_pos ⟨by simp <;> omega, rfl, by simp <;> omega⟩).trans ?_
  refine (if_pos ⟨rfl, rfl, .inr rfl, rfl, by simp⟩).trans ?_
  have hcell : ∀ cs : List AV, cs = [AV.int IntKind.u8 71, AV.int IntKind.u8 0, AV.int IntKind.u8 (a.toNat : Int), AV.int IntKind.u8 (b.toNat : Int), AV.int IntKind.u8 0, AV.int IntKind.u8 0, AV.int IntKind.u8 64, AV.int IntKind.u8 0, AV.int IntKind.u8 64, AV.int IntKind.u8 6, AV.int IntKind.u8 (IntKind.u8.wrap ((IntKind.i64.wrap (65535 - (65535 - c))).fdiv 256)), AV.int IntKind.u8 (IntKind.u8.wrap (IntKind.i64.wrap (65535 - (65535 - c)))), AV.int IntKind.u8 10, AV.int IntKind.u8 (p.toNat : Int), AV.int IntKind.u8 (q.toNat : Int), AV.int IntKind.u8 (r.toNat : Int), AV.int IntKind.u8 192, AV.int IntKind.u8 168, AV.int IntKind.u8 0, AV.int IntKind.u8 1, AV.int IntKind.u8 1, AV.int IntKind.u8 1, AV.int IntKind.u8 1, AV.int IntKind.u8 1, AV.int IntKind.u8 1, AV.int IntKind.u8 1, AV.int IntKind.u8 1, AV.int IntKind.u8 1] ++ List.take (d.length * 1) (bys d) → cs = bys ([71, 0, a, b, 0, 0, 64, 0, 64, 6, x1, y1, 10, p, q, r, 192, 168, 0, 1, 1, 1, 1, 1, 1, 1, 1, 1] ++ d) := by
    intro cs h
    rw [h, hw1, hw2, bys_full]; rfl
  refine (if_pos (cdec_true.2 (say4R (l := ([71, 0, a, b, 0, 0, 64, 0, 64, 6, x1, y1, 10, p, q, r, 192, 168, 0, 1, 1, 1, 1, 1, 1, 1, 1, 1] ++ d)) (bOk_row rfl (hcell _ rfl) (by simp <;> omega)) (by simp <;> omega) hr1))).trans ?_
  refine (if_pos (cdec_true.2 (say4D (cs := dAdr false m) (l := ([71, 0, a, b, 0, 0, 64, 0, 64, 6, x1, y1, 10, p, q, r, 192, 168, 0, 1, 1, 1, 1, 1, 1, 1, 1, 1] ++ d)) (bOk_row rfl (hcell _ rfl) (by simp <;> omega)) (by simp <;> omega) wT hdd rfl))).trans ?_
  refine (if_pos (cdec_true.2 (say4R (l := ([71, 0, a, b, 0, 0, 64, 0, 64, 6, x2, y2, 10, p, q, r, 172, 16, 0, t] ++ (List.replicate 8 1 ++ d))) (bOk_row rfl rfl rfl) (by simp <;> omega) hr2))).trans ?_
  refine (if_pos (by simp <;> omega)).trans ?_
  refine (if_pos (by simp <;> omega)).trans ?_
  refine (if_pos (by simp <;> omega)).trans ?_
  refine (if_pos ⟨by decide, by simp <;> omega⟩).trans ?_
  refine (if_pos (by simp <;> omega)).trans ?_
  refine (if_pos (allB rfl)).trans ?_
  refine (if_pos ⟨by decide, by simp <;> omega⟩).trans ?_
  refine (if_pos (lenB (hcell _ rfl) (by simp <;> omega))).trans ?_
  refine (if_pos (allB (hcell _ rfl))).trans ?_
  refine (if_pos (decide_eq_true (txtEq (hcell _ rfl) (by simp <;> omega) (by simp <;> omega) rfl))).trans ?_
  rfl

theorem foWalk3 (n k m c L : Int) (a b x y p q r x1 y1 x2 y2 t : UInt8) (d : List UInt8) (hd : d.length ≤ 300) (hk : k % 11 = 3) (hL : L = 32 + d.length)
    (hM : make4 (kSrc false n) (kDst false) 6 (12 + d.length) = [69, 0, a, b, 0, 0, 64, 0, 64, 6, x, y, 10, p, q, r, 192, 168, 0, 1]) (hm : decide (makes4 (kSrc false n) (kDst false) (12 + d.length)) = true)
    (hcs : sumI [72, 0, a, b, 0, 0, 64, 0, 64, 6, 0, 0, 10, p, q, r, 192, 168, 0, 1, 1, 1, 1, 1, 1, 1, 1, 1, 1, 1, 1, 1] 0 = 65535 - c) (hw1 : IntKind.u8.wrap ((IntKind.i64.wrap (65535 - (65535 - c))).fdiv 256) = (x1.toNat : Int)) (hw2 : IntKind.u8.wrap (IntKind.i64.wrap (65535 - (65535 - c))) = (y1.toNat : Int))
    (hr1 : v4Read ([72, 0, a, b, 0, 0, 64, 0, 64, 6, x1, y1, 10, p, q, r, 192, 168, 0, 1, 1, 1, 1, 1, 1, 1, 1, 1, 1, 1, 1, 1] ++ d) = rd4 32 L 6 (kSrc false n) (kDst false)) (hdd : dest4 ([72, 0, a, b, 0, 0, 64, 0, 64, 6, x1, y1, 10, p, q, r, 192, 168, 0, 1, 1, 1, 1, 1, 1, 1, 1, 1, 1, 1, 1, 1] ++ d) (dAdr false m) = ([72, 0, a, b, 0, 0, 64, 0, 64, 6, x2, y2, 10, p, q, r, 172, 16, 0, t] ++ (List.replicate 12 1 ++ d))) (hr2 : v4Read ([72, 0, a, b, 0, 0, 64, 0, 64, 6, x2, y2, 10, p, q, r, 172, 16, 0, t] ++ (List.replicate 12 1 ++ d)) = rd4 32 L 6 (kSrc false n) (dAdr false m)) :
    ∃ h', Runs Try.prog 6 [.int .i64 n, .int .i64 k, slB 0 d, .int .i64 m] [farB d] (.bool true) h' := by
  have wS : adrWf (kSrc false n) = true := by rw [kSrc_B]; exact adrB_wf rfl
  have wD : adrWf (kDst false) = true := by rw [kDst_B]; exact adrB_wf rfl
  have wT : adrWf (dAdr false m) = true := by rw [dAdr_B]; exact adrB_wf rfl
  have hwr : IntKind.i64.wrap (12 + (d.length : Int)) = 12 + d.length := wrapI64 (by omega)
  refine Runs.valT0 (tO4Ok 27 [69, 0, a, b, 0, 0, 64, 0, 64, 6, x, y, 10, p, q, r, 192, 168, 0, 1] ([72, 0, a, b, 0, 0, 64, 0, 64, 6, x2, y2, 10, p, q, r, 172, 16, 0, t] ++ (List.replicate 12 1 ++ d)) c (rd4 32 L 6 (kSrc false n) (kDst false)) (rd4 32 L 6 (kSrc false n) (dAdr false m))) (F := 100) (n := 4) (pr := [(24, .bool false), (27, .int .i64 3), (103, .bool true), (110, .bool true), (121, .bool true), (127, .bool true), (134, .bool true), (143, .bool true)]) ?_
  refine (nfFourOptions3 n k m c L a b x y p q r x2 y2 t d _).trans ?_
  refine (if_pos (decide_eq_false (by omega))).trans ?_
  refine (if_pos ⟨rfl, hk⟩).trans ?_
  refine (if_pos (cdec_true.2 (say4M (cs := kSrc false n) (ds := kDst false) (M := [69, 0, a, b, 0, 0, 64, 0, 64, 6, x, y, 10, p, q, r, 192, 168, 0, 1]) wS wD (by decide) ?_ ?_ rfl))).trans ?_
  · rw [hwr]; exact hm
  · rw [hwr]; exact hM
  refine (if_pos (cdec_true.2 (sayRS (l := [72, 0, a, b, 0, 0, 64, 0, 64, 6, 0, 0, 10, p, q, r, 192, 168, 0, 1, 1, 1, 1, 1, 1, 1, 1, 1, 1, 1, 1, 1]) (bOk_row rfl rfl rfl) (by simp <;> omega) hcs))).trans ?_
  refine (if_pos (by simp <;> omega)).trans ?_
  refine (if_pos ⟨by simp <;> omega, rfl, by simp <;> omega⟩).trans ?_
  refine (if_pos ⟨rfl, rfl, .inr rfl, rfl, by simp⟩).trans ?_
  have hcell : ∀ cs : List AV, cs = [AV.int IntKind.u8 72, AV.int IntKind.u8 0, AV.int IntKind.u8 (a.toNat : Int), AV.int IntKind.u8 (b.toNat : Int), AV.int IntKind.u8 0, AV.int IntKind.u8 0, AV.int IntKind.u8 64, AV.int IntKind.u8 0, AV.int IntKind.u8 64, AV.int IntKind.u8 6, AV.int IntKind.u8 (IntKind.u8.wrap ((IntKind.i64.wrap (65535 - (65535 - c))).fdiv 256)), AV.int IntKind.u8 (IntKind.u8.wrap (IntKind.i64.wrap (65535 - (65535 - c)))), AV.int IntKind.u8 10, AV.int IntKind.u8 (p.toNat : Int), AV.int IntKind.u8 (q.toNat : Int), AV.int IntKind.u8 (r.toNat : Int), AV.int IntKind.u8 192, AV.int IntKind.u8 168, AV.int IntKind.u8 0, AV.int IntKind.u8 1, AV.int IntKind.u8 1, AV.int IntKind.u8 1, AV.int IntKind.u8 1, AV.int IntKind.u8 1, AV.int IntKind.u8 1, AV.int IntKind.u8 1, AV.int IntKind.u8 1, AV.int IntKind.u8 1, AV.int IntKind.u8 1, AV.int IntKind.u8 1, AV.int IntKind.u8 1, AV.int IntKind.u8 1] ++ List.take (d.length * 1) (bys d) → cs = bys ([72, 0, a, b, 0, 0, 64, 0, 64, 6, x1, y1, 10, p, q, r, 192, 168, 0, 1, 1, 1, 1, 1, 1, 1, 1, 1, 1, 1, 1, 1] ++ d) := by
    intro cs h
    rw [h, hw1, hw2, bys_full]; rfl
  refine (if_pos (cdec_true.2 (say4R (l := ([72, 0, a, b, 0, 0, 64, 0, 64, 6, x1, y1, 10, p, q, r, 192, 168, 0, 1, 1, 1, 1, 1, 1, 1, 1, 1, 1, 1, 1, 1] ++ d)) (bOk_row rfl (hcell _ rfl) (by simp <;> omega)) (by simp <;> omega) hr1))).trans ?_
  refine (if_pos (cdec_true.2 (say4D (cs := dAdr false m) (l := ([72, 0, a, b, 0, 0, 64, 0, 64, 6, x1, y1, 10, p, q, r, 192, 168, 0, 1, 1, 1, 1, 1, 1, 1, 1, 1, 1, 1, 1, 1] ++ d)) (bOk_row rfl (hcell _ rfl) (by simp <;> omega)) (by simp <;> omega) wT hdd rfl))).trans ?_
  refine (if_pos (cdec_true.2 (say4R (l := ([72, 0, a, b, 0, 0, 64, 0, 64, 6, x2, y2, 10, p, q, r, 172, 16, 0, t] ++ (List.replicate 12 1 ++ d))) (bOk_row rfl rfl rfl) (by simp <;> omega) hr2))).trans ?_
  refine (if_pos (by simp <;> omega)).trans ?_
  refine (if_pos (by simp <;> omega)).trans ?_
  refine (if_pos (by simp <;> omega)).trans ?_
  refine (if_pos ⟨by decide, by simp <;> omega⟩).trans ?_
  refine (if_pos (by simp <;> omega)).trans ?_
  refine (if_pos (allB rfl)).trans ?_
  refine (if_pos ⟨by decide, by simp <;> omega⟩).trans ?_
  refine (if_pos (lenB (hcell _ rfl) (by simp <;> omega))).trans ?_
  refine (if_pos (allB (hcell _ rfl))).trans ?_
  refine (if_pos (decide_eq_true (txtEq (hcell _ rfl) (by simp <;> omega) (by simp <;> omega) rfl))).trans ?_
  rfl

theorem foWalk4 (n k m c L : Int) (a b x y p q r x1 y1 x2 y2 t : UInt8) (d : List UInt8) (hd : d.length ≤ 300) (hk : k % 11 = 4) (hL : L = 36 + d.length)
    (hM : make4 (kSrc false n) (kDst false) 6 (16 + d.length) = [69, 0, a, b, 0, 0, 64, 0, 64, 6, x, y, 10, p, q, r, 192, 168, 0, 1]) (hm : decide (makes4 (kSrc false n) (kDst false) (16 + d.length)) = true)
    (hcs : sumI [73, 0, a, b, 0, 0, 64, 0, 64, 6, 0, 0, 10, p, q, r, 192, 168, 0, 1, 1, 1, 1, 1, 1, 1, 1, 1, 1, 1, 1, 1, 1, 1, 1, 1] 0 = 65535 - c) (hw1 : IntKind.u8.wrap ((IntKind.i64.wrap (65535 - (65535 - c))).fdiv 256) = (x1.toNat : Int)) (hw2 : IntKind.u8.wrap (IntKind.i64.wrap (65535 - (65535 - c))) = (y1.toNat : Int))
    (hr1 : v4Read ([73, 0, a, b, 0, 0, 64, 0, 64, 6, x1, y1, 10, p, q, r, 192, 168, 0, 1, 1, 1, 1, 1, 1, 1, 1, 1, 1, 1, 1, 1, 1, 1, 1, 1] ++ d) = rd4 36 L 6 (kSrc false n) (kDst false)) (hdd : dest4 ([73, 0, a, b, 0, 0, 64, 0, 64, 6, x1, y1, 10, p, q, r, 192, 168, 0, 1, 1, 1, 1, 1, 1, 1, 1, 1, 1, 1, 1, 1, 1, 1, 1, 1] ++ d) (dAdr false m) = ([73, 0, a, b, 0, 0, 64, 0, 64, 6, x2, y2, 10, p, q, r, 172, 16, 0, t] ++ (List.replicate 16 1 ++ d))) (hr2 : v4Read ([73, 0, a, b, 0, 0, 64, 0, 64, 6, x2, y2, 10, p, q, r, 172, 16, 0, t] ++ (List.replicate 16 1 ++ d)) = rd4 36 L 6 (kSrc false n) (dAdr false m)) :
    ∃ h', Runs Try.prog 6 [.int .i64 n, .int .i64 k, slB 0 d, .int .i64 m] [farB d] (.bool true) h' := by
  have wS : adrWf (kSrc false n) = true := by rw [kSrc_B]; exact adrB_wf rfl
  have wD : adrWf (kDst false) = true := by rw [kDst_B]; exact adrB_wf rfl
  have wT : adrWf (dAdr false m) = true := by rw [dAdr_B]; exact adrB_wf rfl
  have hwr : IntKind.i64.wrap (16 + (d.length : Int)) = 16 + d.length := wrapI64 (by omega)
  refine Runs.valT0 (tO4Ok 35 [69, 0, a, b, 0, 0, 64, 0, 64, 6, x, y, 10, p, q, r, 192, 168, 0, 1] ([73, 0, a, b, 0, 0, 64, 0, 64, 6, x2, y2, 10, p, q, r, 172, 16, 0, t] ++ (List.replicate 16 1 ++ d)) c (rd4 36 L 6 (kSrc false n) (kDst false)) (rd4 36 L 6 (kSrc false n) (dAdr false m))) (F := 100) (n := 4) (pr := [(24, .bool false), (27, .int .i64 4), (103, .bool true), (110, .bool true), (121, .bool true), (127, .bool true), (134, .bool true), (143, .bool true)]) ?_
  refine (nfFourOptions4 n k m c L a b x y p q r x2 y2 t d _).trans ?_
  refine (if_pos (decide_eq_false (by omega))).trans ?_
  refine (if_pos ⟨rfl, hk⟩).trans ?_
  refine (if_pos (cdec_true.2 (say4M (cs := kSrc false n) (ds := kDst false) (M := [69, 0, a, b, 0, 0, 64, 0, 64, 6, x, y, 10, p, q, r, 192, 168, 0, 1]) wS wD (by decide) ?_ ?_ rfl))).trans ?_
  · rw [hwr]; exact hm
  · rw [hwr]; exact hM
  refine (if_pos (cdec_true.2 (sayRS (l := [73, 0, a, b, 0, 0, 64, 0, 64, 6, 0, 0, 10, p, q, r, 192, 168, 0, 1, 1, 1, 1, 1, 1, 1, 1, 1, 1, 1, 1, 1, 1, 1, 1, 1]) (bOk_row rfl rfl rfl) (by simp <;> omega) hcs))).trans ?_
  refine (if_pos (by simp <;> omega)).trans ?_
  refine (if_pos ⟨by simp <;> omega, rfl, by simp <;> omega⟩).trans ?_
  refine (if_pos ⟨rfl, rfl, .inr rfl, rfl, by simp⟩).trans ?_
  have hcell : ∀ cs : List AV, cs = [AV.int IntKind.u8 73, AV.int IntKind.u8 0, AV.int IntKind.u8 (a.toNat : Int), AV.int IntKind.u8 (b.toNat : Int), AV.int IntKind.u8 0, AV.int IntKind.u8 0, AV.int IntKind.u8 64, AV.int IntKind.u8 0, AV.int IntKind.u8 64, AV.int IntKind.u8 6, AV.int IntKind.u8 (IntKind.u8.wrap ((IntKind.i64.wrap (65535 - (65535 - c))).fdiv 256)), AV.int IntKind.u8 (IntKind.u8.wrap (IntKind.i64.wrap (65535 - (65535 - c)))), AV.int IntKind.u8 10, AV.int IntKind.u8 (p.toNat : Int), AV.int IntKind.u8 (q.toNat : Int), AV.int IntKind.u8 (r.toNat : Int), AV.int IntKind.u8 192, AV.int IntKind.u8 168, AV.int IntKind.u8 0, AV.int IntKind.u8 1, AV.int IntKind.u8 1, AV.int IntKind.u8 1, AV.int IntKind.u8 1, AV.int IntKind.u8 1, AV.int IntKind.u8 1, AV.int IntKind.u8 1, AV.int IntKind.u8 1, AV.int IntKind.u8 1, AV.int IntKind.u8 1, AV.int IntKind.u8 1, AV.int IntKind.u8 1, AV.int IntKind.u8 1, AV.int IntKind.u8 1, AV.int IntKind.u8 1, AV.int IntKind.u8 1, AV.int IntKind.u8 1] ++ List.take (d.length * 1) (bys d) → cs = bys ([73, 0, a, b, 0, 0, 64, 0, 64, 6, x1, y1, 10, p, q, r, 192, 168, 0, 1, 1, 1, 1, 1, 1, 1, 1, 1, 1, 1, 1, 1, 1, 1, 1, 1] ++ d) := by
    intro cs h
    rw [h, hw1, hw2, bys_full]; rfl
  refine (if_pos (cdec_true.2 (say4R (l := ([73, 0, a, b, 0, 0, 64, 0, 64, 6, x1, y1, 10, p, q, r, 192, 168, 0, 1, 1, 1, 1, 1, 1, 1, 1, 1, 1, 1, 1, 1, 1, 1, 1, 1] ++ d)) (bOk_row rfl (hcell _ rfl) (by simp <;> omega)) (by simp <;> omega) hr1))).trans ?_
  refine (if_pos (cdec_true.2 (say4D (cs := dAdr false m) (l := ([73, 0, a, b, 0, 0, 64, 0, 64, 6, x1, y1, 10, p, q, r, 192, 168, 0, 1, 1, 1, 1, 1, 1, 1, 1, 1, 1, 1, 1, 1, 1, 1, 1, 1] ++ d)) (bOk_row rfl (hcell _ rfl) (by simp <;> omega)) (by simp <;> omega) wT hdd rfl))).trans ?_
  refine (if_pos (cdec_true.2 (say4R (l := ([73, 0, a, b, 0, 0, 64, 0, 64, 6, x2, y2, 10, p, q, r, 172, 16, 0, t] ++ (List.replicate 16 1 ++ d))) (bOk_row rfl rfl rfl) (by simp <;> omega) hr2))).trans ?_
  refine (if_pos (by simp <;> omega)).trans ?_
  refine (if_pos (by simp <;> omega)).trans ?_
  refine (if_pos (by simp <;> omega)).trans ?_
  refine (if_pos ⟨by decide, by simp <;> omega⟩).trans ?_
  refine (if_pos (by simp <;> omega)).trans ?_
  refine (if_pos (allB rfl)).trans ?_
  refine (if_pos ⟨by decide, by simp <;> omega⟩).trans ?_
  refine (if_pos (lenB (hcell _ rfl) (by simp <;> omega))).trans ?_
  refine (if_pos (allB (hcell _ rfl))).trans ?_
  refine (if_pos (decide_eq_true (txtEq (hcell _ rfl) (by simp <;> omega) (by simp <;> omega) rfl))).trans ?_
  rfl

theorem foWalk5 (n k m c L : Int) (a b x y p q r x1 y1 x2 y2 t : UInt8) (d : List UInt8) (hd : d.length ≤ 300) (hk : k % 11 = 5) (hL : L = 40 + d.length)
    (hM : make4 (kSrc false n) (kDst false) 6 (20 + d.length) = [69, 0, a, b, 0, 0, 64, 0, 64, 6, x, y, 10, p, q, r, 192, 168, 0, 1]) (hm : decide (makes4 (kSrc false n) (kDst false) (20 + d.length)) = true)
    (hcs : sumI [74, 0, a, b, 0, 0, 64, 0, 64, 6, 0, 0, 10, p, q, r, 192, 168, 0, 1, 1, 1, 1, 1, 1, 1, 1, 1, 1, 1, 1, 1, 1, 1, 1, 1, 1, 1, 1, 1] 0 = 65535 - c) (hw1 : IntKind.u8.wrap ((IntKind.i64.wrap (65535 - (65535 - c))).fdiv 256) = (x1.toNat : Int)) (hw2 : IntKind.u8.wrap (IntKind.i64.wrap (65535 - (65535 - c))) = (y1.toNat : Int))
    (hr1 : v4Read ([74, 0, a, b, 0, 0, 64, 0, 64, 6, x1, y1, 10, p, q, r, 192, 168, 0, 1, 1, 1, 1, 1, 1, 1, 1, 1, 1, 1, 1, 1, 1, 1, 1, 1, 1, 1, 1, 1] ++ d) = rd4 40 L 6 (kSrc false n) (kDst false)) (hdd : dest4 ([74, 0, a, b, 0, 0, 64, 0, 64, 6, x1, y1, 10, p, q, r, 192, 168, 0, 1, 1, 1, 1, 1, 1, 1, 1, 1, 1, 1, 1, 1, 1, 1, 1, 1, 1, 1, 1, 1] ++ d) (dAdr false m) = ([74, 0, a, b, 0, 0, 64, 0, 64, 6, x2, y2, 10, p, q, r, 172, 16, 0, t] ++ (List.replicate 20 1 ++ d))) (hr2 : v4Read ([74, 0, a, b, 0, 0, 64, 0, 64, 6, x2, y2, 10, p, q, r, 172, 16, 0, t] ++ (List.replicate 20 1 ++ d)) = rd4 40 L 6 (kSrc false n) (dAdr false m)) :
    ∃ h', Runs Try.prog 6 [.int .i64 n, .int .i64 k, slB 0 d, .int .i64 m] [farB d] (.bool true) h' := by
  have wS : adrWf (kSrc false n) = true := by rw [kSrc_B]; exact adrB_wf rfl
  have wD : adrWf (kDst false) = true := by rw [kDst_B]; exact adrB_wf rfl
  have wT : adrWf (dAdr false m) = true := by rw [dAdr_B]; exact adrB_wf rfl
  have hwr : IntKind.i64.wrap (20 + (d.length : Int)) = 20 + d.length := wrapI64 (by omega)
  refine Runs.valT0 (tO4Ok 43 [69, 0, a, b, 0, 0, 64, 0, 64, 6, x, y, 10, p, q, r, 192, 168, 0, 1] ([74, 0, a, b, 0, 0, 64, 0, 64, 6, x2, y2, 10, p, q, r, 172, 16, 0, t] ++ (List.replicate 20 1 ++ d)) c (rd4 40 L 6 (kSrc false n) (kDst false)) (rd4 40 L 6 (kSrc false n) (dAdr false m))) (F := 100) (n := 4) (pr := [(24, .bool false), (27, .int .i64 5), (103, .bool true), (110, .bool true), (121, .bool true), (127, .bool true), (134, .bool true), (143, .bool true)]) ?_
  refine (nfFourOptions5 n k m c L a b x y p q r x2 y2 t d _).trans ?_
  refine (if_pos (decide_eq_false (by omega))).trans ?_
  refine (if_pos ⟨rfl, hk⟩).trans ?_
  refine (if_pos (cdec_true.2 (say4M (cs := kSrc false n) (ds := kDst false) (M := [69, 0, a, b, 0, 0, 64, 0, 64, 6, x, y, 10, p, q, r, 192, 168, 0, 1]) wS wD (by decide) ?_ ?_ rfl))).trans ?_
  · rw [hwr]; exact hm
  · rw [hwr]; exact hM
  refine (if_pos (cdec_true.2 (sayRS (l := [74, 0, a, b, 0, 0, 64, 0, 64, 6, 0, 0, 10, p, q, r, 192, 168, 0, 1, 1, 1, 1, 1, 1, 1, 1, 1, 1, 1, 1, 1, 1, 1, 1, 1, 1, 1, 1, 1]) (bOk_row rfl rfl rfl) (by simp <;> omega) hcs))).trans ?_
  refine (if_pos (by simp <;> omega)).trans ?_
  refine (if_pos ⟨by simp <;> omega, rfl, by simp <;> omega⟩).trans ?_
  refine (if_pos ⟨rfl, rfl, .inr rfl, rfl, by simp⟩).trans ?_
  have hcell : ∀ cs : List AV, cs = [AV.int IntKind.u8 74, AV.int IntKind.u8 0, AV.int IntKind.u8 (a.toNat : Int), AV.int IntKind.u8 (b.toNat : Int), AV.int IntKind.u8 0, AV.int IntKind.u8 0, AV.int IntKind.u8 64, AV.int IntKind.u8 0, AV.int IntKind.u8 64, AV.int IntKind.u8 6, AV.int IntKind.u8 (IntKind.u8.wrap ((IntKind.i64.wrap (65535 - (65535 - c))).fdiv 256)), AV.int IntKind.u8 (IntKind.u8.wrap (IntKind.i64.wrap (65535 - (65535 - c)))), AV.int IntKind.u8 10, AV.int IntKind.u8 (p.toNat : Int), AV.int IntKind.u8 (q.toNat : Int), AV.int IntKind.u8 (r.toNat : Int), AV.int IntKind.u8 192, AV.int IntKind.u8 168, AV.int IntKind.u8 0, AV.int IntKind.u8 1, AV.int IntKind.u8 1, AV.int IntKind.u8 1, AV.int IntKind.u8 1, AV.int IntKind.u8 1, AV.int IntKind.u8 1, AV.int IntKind.u8 1, AV.int IntKind.u8 1, AV.int IntKind.u8 1, AV.int IntKind.u8 1, AV.int IntKind.u8 1, AV.int IntKind.u8 1, AV.int IntKind.u8 1, AV.int IntKind.u8 1, AV.int IntKind.u8 1, AV.int IntKind.u8 1, AV.int IntKind.u8 1, AV.int IntKind.u8 1, AV.int IntKind.u8 1, AV.int IntKind.u8 1, AV.int IntKind.u8 1] ++ List.take (d.length * 1) (bys d) → cs = bys ([74, 0, a, b, 0, 0, 64, 0, 64, 6, x1, y1, 10, p, q, r, 192, 168, 0, 1, 1, 1, 1, 1, 1, 1, 1, 1, 1, 1, 1, 1, 1, 1, 1, 1, 1, 1, 1, 1] ++ d) := by
    intro cs h
    rw [h, hw1, hw2, bys_full]; rfl
  refine (if_pos (cdec_true.2 (say4R (l := ([74, 0, a, b, 0, 0, 64, 0, 64, 6, x1, y1, 10, p, q, r, 192, 168, 0, 1, 1, 1, 1, 1, 1, 1, 1, 1, 1, 1, 1, 1, 1, 1, 1, 1, 1, 1, 1, 1] ++ d)) (bOk_row rfl (hcell _ rfl) (by simp <;> omega)) (by simp <;> omega) hr1))).trans ?_
  refine (if_pos (cdec_true.2 (say4D (cs := dAdr false m) (l := ([74, 0, a, b, 0, 0, 64, 0, 64, 6, x1, y1, 10, p, q, r, 192, 168, 0, 1, 1, 1, 1, 1, 1, 1, 1, 1, 1, 1, 1, 1, 1, 1, 1, 1, 1, 1, 1, 1] ++ d)) (bOk_row rfl (hcell _ rfl) (by simp <;> omega)) (by simp <;> omega) wT hdd rfl))).trans ?_
  refine (if_pos (cdec_true.2 (say4R (l := ([74, 0, a, b, 0, 0, 64, 0, 64, 6, x2, y2, 10, p, q, r, 172, 16, 0, t] ++ (List.replicate 20 1 ++ d))) (bOk_row rfl rfl rfl) (by simp <;> omega) hr2))).trans ?_
  refine (if_pos (by simp <;> omega)).trans ?_
  refine (if_pos (by simp <;> omega)).trans ?_
  refine (if_pos (by simp <;> omega)).trans ?_
  refine (if_pos ⟨by decide, by simp <;> omega⟩).trans ?_
  refine (if_pos (by simp <;> omega)).trans ?_
  refine (if_pos (allB rfl)).trans ?_
  refine (if_pos ⟨by decide, by simp <;> omega⟩).trans ?_
  refine (if_pos (lenB (hcell _ rfl) (by simp <;> omega))).trans ?_
  refine (if_pos (allB (hcell _ rfl))).trans ?_
  refine (if_pos (decide_eq_true (txtEq (hcell _ rfl) (by simp <;> omega) (by simp <;> omega) rfl))).trans ?_
  rfl

theorem foWalk6 (n k m c L : Int) (a b x y p q r x1 y1 x2 y2 t : UInt8) (d : List UInt8) (hd : d.length ≤ 300) (hk : k % 11 = 6) (hL : L = 44 + d.length)
    (hM : make4 (kSrc false n) (kDst false) 6 (24 + d.length) = [69, 0, a, b, 0, 0, 64, 0, 64, 6, x, y, 10, p, q, r, 192, 168, 0, 1]) (hm : decide (makes4 (kSrc false n) (kDst false) (24 + d.length)) = true)
    (hcs : sumI [75, 0, a, b, 0, 0, 64, 0, 64, 6, 0, 0, 10, p, q, r, 192, 168, 0, 1, 1, 1, 1, 1, 1, 1, 1, 1, 1, 1, 1, 1, 1, 1, 1, 1, 1, 1, 1, 1, 1, 1, 1, 1] 0 = 65535 - c) (hw1 : IntKind.u8.wrap ((IntKind.i64.wrap (65535 - (65535 - c))).fdiv 256) = (x1.toNat : Int)) (hw2 : IntKind.u8.wrap (IntKind.i64.wrap (65535 - (65535 - c))) = (y1.toNat : Int))
    (hr1 : v4Read ([75, 0, a, b, 0, 0, 64, 0, 64, 6, x1, y1, 10, p, q, r, 192, 168, 0, 1, 1, 1, 1, 1, 1, 1, 1, 1, 1, 1, 1, 1, 1, 1, 1, 1, 1, 1, 1, 1, 1, 1, 1, 1] ++ d) = rd4 44 L 6 (kSrc false n) (kDst false)) (hdd : dest4 ([75, 0, a, b, 0, 0, 64, 0, 64, 6, x1, y1, 10, p, q, r, 192, 168, 0, 1, 1, 1, 1, 1, 1, 1, 1, 1, 1, 1, 1, 1, 1, 1, 1, 1, 1, 1, 1, 1, 1, 1, 1, 1] ++ d) (dAdr false m) = ([75, 0, a, b, 0, 0, 64, 0, 64, 6, x2, y2, 10, p, q, r, 172, 16, 0, t] ++ (List.replicate 24 1 ++ d))) (hr2 : v4Read ([75, 0, a, b, 0, 0, 64, 0, 64, 6, x2, y2, 10, p, q, r, 172, 16, 0, t] ++ (List.replicate 24 1 ++ d)) = rd4 44 L 6 (kSrc false n) (dAdr false m)) :
    ∃ h', Runs Try.prog 6 [.int .i64 n, .int .i64 k, slB 0 d, .int .i64 m] [farB d] (.bool true) h' := by
  have wS : adrWf (kSrc false n) = true := by rw [kSrc_B]; exact adrB_wf rfl
  have wD : adrWf (kDst false) = true := by rw [kDst_B]; exact adrB_wf rfl
  have wT : adrWf (dAdr false m) = true := by rw [dAdr_B]; exact adrB_wf rfl
  have hwr : IntKind.i64.wrap (24 + (d.length : Int)) = 24 + d.length := wrapI64 (by omega)
  refine Runs.valT0 (tO4Ok 51 [69, 0, a, b, 0, 0, 64, 0, 64, 6, x, y, 10, p, q, r, 192, 168, 0, 1] ([75, 0, a, b, 0, 0, 64, 0, 64, 6, x2, y2, 10, p, q, r, 172, 16, 0, t] ++ (List.replicate 24 1 ++ d)) c (rd4 44 L 6 (kSrc false n) (kDst false)) (rd4 44 L 6 (kSrc false n) (dAdr false m))) (F := 100) (n := 4) (pr := [(24, .bool false), (27, .int .i64 6), (103, .bool true), (110, .bool true), (121, .bool true), (127, .bool true), (134, .bool true), (143, .bool true)]) ?_
  refine (nfFourOptions6 n k m c L a b x y p q r x2 y2 t d _).trans ?_
  refine (if_pos (decide_eq_false (by omega))).trans ?_
  refine (if_pos ⟨rfl, hk⟩).trans ?_
  refine (if_pos (cdec_true.2 (say4M (cs := kSrc false n) (ds := kDst false) (M := [69, 0, a, b, 0, 0, 64, 0, 64, 6, x, y, 10, p, q, r, 192, 168, 0, 1]) wS wD (by decide) ?_ ?_ rfl))).trans ?_
  · rw [hwr]; exact hm
  · rw [hwr]; exact hM
  refine (if_pos (cdec_true.2 (sayRS (l := [75, 0, a, b, 0, 0, 64, 0, 64, 6, 0, 0, 10, p, q, r, 192, 168, 0, 1, 1, 1, 1, 1, 1, 1, 1, 1, 1, 1, 1, 1, 1, 1, 1, 1, 1, 1, 1, 1, 1, 1, 1, 1]) (bOk_row rfl rfl rfl) (by simp <;> omega) hcs))).trans ?_
  refine (if_pos (by simp <;> omega)).trans ?_
  refine (if_pos ⟨by simp <;> omega, rfl, by simp <;> omega⟩).trans ?_
  refine (if_pos ⟨rfl, rfl, .inr rfl, rfl, by simp⟩).trans ?_
  have hcell : ∀ cs : List AV, cs = [AV.int IntKind.u8 75, AV.int IntKind.u8 0, AV.int IntKind.u8 (a.toNat : Int), AV.int IntKind.u8 (b.toNat : Int), AV.int IntKind.u8 0, AV.int IntKind.u8 0, AV.int IntKind.u8 64, AV.int IntKind.u8 0, AV.int IntKind.u8 64, AV.int IntKind.u8 6, AV.int IntKind.u8 (IntKind.u8.wrap ((IntKind.i64.wrap (65535 - (65535 - c))).fdiv 256)), AV.int IntKind.u8 (IntKind.u8.wrap (IntKind.i64.wrap (65535 - (65535 - c)))), AV.int IntKind.u8 10, AV.int IntKind.u8 (p.toNat : Int), AV.int IntKind.u8 (q.toNat : Int), AV.int IntKind.u8 (r.toNat : Int), AV.int IntKind.u8 192, AV.int IntKind.u8 168, AV.int IntKind.u8 0, AV.int IntKind.u8 1, AV.int IntKind.u8 1, AV.int IntKind.u8 1, AV.int IntKind.u8 1, AV.int IntKind.u8 1, AV.int IntKind.u8 1, AV.int IntKind.u8 1, AV.int IntKind.u8 1, AV.int IntKind.u8 1, AV.int IntKind.u8 1, AV.int IntKind.u8 1, AV.int IntKind.u8 1, AV.int IntKind.u8 1, AV.int IntKind.u8 1, AV.int IntKind.u8 1, AV.int IntKind.u8 1, AV.int IntKind.u8 1, AV.int IntKind.u8 1, AV.int IntKind.u8 1, AV.int IntKind.u8 1, AV.int IntKind.u8 1, AV.int IntKind.u8 1, AV.int IntKind.u8 1, AV.int IntKind.u8 1, AV.int IntKind.u8 1] ++ List.take (d.length * 1) (bys d) → cs = bys ([75, 0, a, b, 0, 0, 64, 0, 64, 6, x1, y1, 10, p, q, r, 192, 168, 0, 1, 1, 1, 1, 1, 1, 1, 1, 1, 1, 1, 1, 1, 1, 1, 1, 1, 1, 1, 1, 1, 1, 1, 1, 1] ++ d) := by
    intro cs h
    rw [h, hw1, hw2, bys_full]; rfl
  refine (if_pos (cdec_true.2 (say4R (l := ([75, 0, a, b, 0, 0, 64, 0, 64, 6, x1, y1, 10, p, q, r, 192, 168, 0, 1, 1, 1, 1, 1, 1, 1, 1, 1, 1, 1, 1, 1, 1, 1, 1, 1, 1, 1, 1, 1, 1, 1, 1, 1] ++ d)) (bOk_row rfl (hcell _ rfl) (by simp <;> omega)) (by simp <;> omega) hr1))).trans ?_
  refine (if_pos (cdec_true.2 (say4D (cs := dAdr false m) (l := ([75, 0, a, b, 0, 0, 64, 0, 64, 6, x1, y1, 10, p, q, r, 192, 168, 0, 1, 1, 1, 1, 1, 1, 1, 1, 1, 1, 1, 1, 1, 1, 1, 1, 1, 1, 1, 1, 1, 1, 1, 1, 1] ++ d)) (bOk_row rfl (hcell _ rfl) (by simp <;> omega)) (by simp <;> omega) wT hdd rfl))).trans ?_
  refine (if_pos (cdec_true.2 (say4R (l := ([75, 0, a, b, 0, 0, 64, 0, 64, 6, x2, y2, 10, p, q, r, 172, 16, 0, t] ++ (List.replicate 24 1 ++ d))) (bOk_row rfl rfl rfl) (by simp <;> omega) hr2))).trans ?_
  refine (if_pos (by simp <;> omega)).trans ?_
  refine (if_pos (by simp <;> omega)).trans ?_
  refine (if_pos (by simp <;> omega)).trans ?_
  refine (if_pos ⟨by decide, by simp <;> omega⟩).trans ?_
  refine (if_pos (by simp <;> omega)).trans ?_
  refine (if_pos (allB rfl)).trans ?_
  refine (if_pos ⟨by decide, by simp <;> omega⟩).trans ?_
  refine (if_pos (lenB (hcell _ rfl) (by simp <;> omega))).trans ?_
  refine (if_pos (allB (hcell _ rfl))).trans ?_
  refine (if_pos (decide_eq_true (txtEq (hcell _ rfl) (by simp <;> omega) (by simp <;> omega) rfl))).trans ?_
  rfl

theorem foWalk7 (n k m c L : Int) (a b x y p q r x1 y1 x2 y2 t : UInt8) (d : List UInt8) (hd : d.length ≤ 300) (hk : k % 11 = 7) (hL : L = 48 + d.length)
    (hM : make4 (kSrc false n) (kDst false) 6 (28 + d.length) = [69, 0, a, b, 0, 0, 64, 0, 64, 6, x, y, 10, p, q, r, 192, 168, 0, 1]) (hm : decide (makes4 (kSrc false n) (kDst false) (28 + d.length)) = true)
    (hcs : sumI [76, 0, a, b, 0, 0, 64, 0, 64, 6, 0, 0, 10, p, q, r, 192, 168, 0, 1, 1, 1, 1, 1, 1, 1, 1, 1, 1, 1, 1, 1, 1, 1, 1, 1, 1, 1, 1, 1, 1, 1, 1, 1, 1, 1, 1, 1] 0 = 65535 - c) (hw1 : IntKind.u8.wrap ((IntKind.i64.wrap (65535 - (65535 - c))).fdiv 256) = (x1.toNat : Int)) (hw2 : IntKind.u8.wrap (IntKind.i64.wrap (65535 - (65535 - c))) = (y1.toNat : Int))
    (hr1 : v4Read ([76, 0, a, b, 0, 0, 64, 0, 64, 6, x1, y1, 10, p, q, r, 192, 168, 0, 1, 1, 1, 1, 1, 1, 1, 1, 1, 1, 1, 1, 1, 1, 1, 1, 1, 1, 1, 1, 1, 1, 1, 1, 1, 1, 1, 1, 1] ++ d) = rd4 48 L 6 (kSrc false n) (kDst false)) (hdd : dest4 ([76, 0, a, b, 0, 0, 64, 0, 64, 6, x1, y1, 10, p, q, r, 192, 168, 0, 1, 1, 1, 1, 1, 1, 1, 1, 1, 1, 1, 1, 1, 1, 1, 1, 1, 1, 1, 1, 1, 1, 1, 1, 1, 1, 1, 1, 1] ++ d) (dAdr false m) = ([76, 0, a, b, 0, 0, 64, 0, 64, 6, x2, y2, 10, p, q, r, 172, 16, 0, t] ++ (List.replicate 28 1 ++ d))) (hr2 : v4Read ([76, 0, a, b, 0, 0, 64, 0, 64, 6, x2, y2, 10, p, q, r, 172, 16, 0, t] ++ (List.replicate 28 1 ++ d)) = rd4 48 L 6 (kSrc false n) (dAdr false m)) :
    ∃ h', Runs Try.prog 6 [.int .i64 n, .int .i64 k, slB 0 d, .int .i64 m] [farB d] (.bool true) h' := by
  have wS : adrWf (kSrc false n) = true := by rw [kSrc_B]; exact adrB_wf rfl
  have wD : adrWf (kDst false) = true := by rw [kDst_B]; exact adrB_wf rfl
  have wT : adrWf (dAdr false m) = true := by rw [dAdr_B]; exact adrB_wf rfl
  have hwr : IntKind.i64.wrap (28 + (d.length : Int)) = 28 + d.length := wrapI64 (by omega)
  refine Runs.valT0 (tO4Ok 59 [69, 0, a, b, 0, 0, 64, 0, 64, 6, x, y, 10, p, q, r, 192, 168, 0, 1] ([76, 0, a, b, 0, 0, 64, 0, 64, 6, x2, y2, 10, p, q, r, 172, 16, 0, t] ++ (List.replicate 28 1 ++ d)) c (rd4 48 L 6 (kSrc false n) (kDst false)) (rd4 48 L 6 (kSrc false n) (dAdr false m))) (F := 100) (n := 4) (pr := [(24, .bool false), (27, .int .i64 7), (103, .bool true), (110, .bool true), (121, .bool true), (127, .bool true), (134, .bool true), (143, .bool true)]) ?_
  refine (nfFourOptions7 n k m c L a b x y p q r x2 y2 t d _).trans ?_
  refine (if_pos (decide_eq_false (by omega))).trans ?_
  refine (if_pos ⟨rfl, hk⟩).trans ?_
  refine (if_pos (cdec_true.2 (say4M (cs := kSrc false n) (ds := kDst false) (M := [69, 0, a, b, 0, 0, 64, 0, 64, 6, x, y, 10, p, q, r, 192, 168, 0, 1]) wS wD (by decide) ?_ ?_ rfl))).trans ?_
  · rw [hwr]; exact hm
  · rw [hwr]; exact hM
  refine (if_pos (cdec_true.2 (sayRS (l := [76, 0, a, b, 0, 0, 64, 0, 64, 6, 0, 0, 10, p, q, r, 192, 168, 0, 1, 1, 1, 1, 1, 1, 1, 1, 1, 1, 1, 1, 1, 1, 1, 1, 1, 1, 1, 1, 1, 1, 1, 1, 1, 1, 1, 1, 1]) (bOk_row rfl rfl rfl) (by simp <;> omega) hcs))).trans ?_
  refine (if_pos (by simp <;> omega)).trans ?_
  refine (if_pos ⟨by simp <;> omega, rfl, by simp <;> omega⟩).trans ?_
  refine (if_pos ⟨rfl, rfl, .inr rfl, rfl, by simp⟩).trans ?_
  have hcell : ∀ cs : List AV, cs = [AV.int IntKind.u8 76, AV.int IntKind.u8 0, AV.int IntKind.u8 (a.toNat : Int), AV.int IntKind.u8 (b.toNat : Int), AV.int IntKind.u8 0, AV.int IntKind.u8 0, AV.int IntKind.u8 64, AV.int IntKind.u8 0, AV.int IntKind.u8 64, AV.int IntKind.u8 6, AV.int IntKind.u8 (IntKind.u8.wrap ((IntKind.i64.wrap (65535 - (65535 - c))).fdiv 256)), AV.int IntKind.u8 (IntKind.u8.wrap (IntKind.i64.wrap (65535 - (65535 - c)))), AV.int IntKind.u8 10, AV.int IntKind.u8 (p.toNat : Int), AV.int IntKind.u8 (q.toNat : Int), AV.int IntKind.u8 (r.toNat : Int), AV.int IntKind.u8 192, AV.int IntKind.u8 168, AV.int IntKind.u8 0, AV.int IntKind.u8 1, AV.int IntKind.u8 1, AV.int IntKind.u8 1, AV.int IntKind.u8 1, AV.int IntKind.u8 1, AV.int IntKind.u8 1, AV.int IntKind.u8 1, AV.int IntKind.u8 1, AV.int IntKind.u8 1, AV.int IntKind.u8 1, AV.int IntKind.u8 1, AV.int IntKind.u8 1, AV.int IntKind.u8 1, AV.int IntKind.u8 1, AV.int IntKind.u8 1, AV.int IntKind.u8 1, AV.int IntKind.u8 1, AV.int IntKind.u8 1, AV.int IntKind.u8 1, AV.int IntKind.u8 1, AV.int IntKind.u8 1, AV.int IntKind.u8 1, AV.int IntKind.u8 1, AV.int IntKind.u8 1, AV.int IntKind.u8 1, AV.int IntKind.u8 1, AV.int IntKind.u8 1, AV.int IntKind.u8 1, AV.int IntKind.u8 1] ++ List.take (d.length * 1) (bys d) → cs = bys ([76, 0, a, b, 0, 0, 64, 0, 64, 6, x1, y1, 10, p, q, r, 192, 168, 0, 1, 1, 1, 1, 1, 1, 1, 1, 1, 1, 1, 1, 1, 1, 1, 1, 1, 1, 1, 1, 1, 1, 1, 1, 1, 1, 1, 1, 1] ++ d) := by
    intro cs h
    rw [h, hw1, hw2, bys_full]; rfl
  refine (if_pos (cdec_true.2 (say4R (l := ([76, 0, a, b, 0, 0, 64, 0, 64, 6, x1, y1, 10, p, q, r, 192, 168, 0, 1, 1, 1, 1, 1, 1, 1, 1, 1, 1, 1, 1, 1, 1, 1, 1, 1, 1, 1, 1, 1, 1, 1, 1, 1, 1, 1, 1, 1] ++ d)) (bOk_row rfl (hcell _ rfl) (by simp <;> omega)) (by simp <;> omega) hr1))).trans ?_
  refine (if_pos (cdec_true.2 (say4D (cs := dAdr false m) (l := ([76, 0, a, b, 0, 0, 64, 0, 64, 6, x1, y1, 10, p, q, r, 192, 168, 0, 1, 1, 1, 1, 1, 1, 1, 1, 1, 1, 1, 1, 1, 1, 1, 1, 1, 1, 1, 1, 1, 1, 1, 1, 1, 1, 1, 1, 1] ++ d)) (bOk_row rfl (hcell _ rfl) (by simp <;> omega)) (by simp <;> omega) wT hdd rfl))).trans ?_
  refine (if_pos (cdec_true.2 (say4R (l := ([76, 0, a, b, 0, 0, 64, 0, 64, 6, x2, y2, 10, p, q, r, 172, 16, 0, t] ++ (List.replicate 28 1 ++ d))) (bOk_row rfl rfl rfl) (by simp <;> omega) hr2))).trans ?_
  refine (if_pos (by simp <;> omega)).trans ?_
  refine (if_pos (by simp <;> omega)).trans ?_
  refine (if_pos (by simp <;> omega)).trans ?_
  refine (if_pos ⟨by decide, by simp <;> omega⟩).trans ?_
  refine (if_pos (by simp <;> omega)).trans ?_
  refine (if_pos (allB rfl)).trans ?_
  refine (if_pos ⟨by decide, by simp <;> omega⟩).trans ?_
  refine (if_pos (lenB (hcell _ rfl) (by simp <;> omega))).trans ?_
  refine (if_pos (allB (hcell _ rfl))).trans ?_
  refine (if_pos (decide_eq_true (txtEq (hcell _ rfl) (by simp <;> omega) (by simp <;> omega) rfl))).trans ?_
  rfl

theorem foWalk8 (n k m c L : Int) (a b x y p q r x1 y1 x2 y2 t : UInt8) (d : List UInt8) (hd : d.length ≤ 300) (hk : k % 11 = 8) (hL : L = 52 + d.length)
    (hM : make4 (kSrc false n) (kDst false) 6 (32 + d.length) = [69, 0, a, b, 0, 0, 64, 0, 64, 6, x, y, 10, p, q, r, 192, 168, 0, 1]) (hm : decide (makes4 (kSrc false n) (kDst false) (32 + d.length)) = true)
    (hcs : sumI [77, 0, a, b, 0, 0, 64, 0, 64, 6, 0, 0, 10, p, q, r, 192, 168, 0, 1, 1, 1, 1, 1, 1, 1, 1, 1, 1, 1, 1, 1, 1, 1, 1, 1, 1, 1, 1, 1, 1, 1, 1, 1, 1, 1, 1, 1, 1, 1, 1, 1] 0 = 65535 - c) (hw1 : IntKind.u8.wrap ((IntKind.i64.wrap (65535 - (65535 - c))).fdiv 256) = (x1.toNat : Int)) (hw2 : IntKind.u8.wrap (IntKind.i64.wrap (65535 - (65535 - c))) = (y1.toNat : Int))
    (hr1 : v4Read ([77, 0, a, b, 0, 0, 64, 0, 64, 6, x1, y1, 10, p, q, r, 192, 168, 0, 1, 1, 1, 1, 1, 1, 1, 1, 1, 1, 1, 1, 1, 1, 1, 1, 1, 1, 1, 1, 1, 1, 1, 1, 1, 1, 1, 1, 1, 1, 1, 1, 1] ++ d) = rd4 52 L 6 (kSrc false n) (kDst false)) (hdd : dest4 ([77, 0, a, b, 0, 0, 64, 0, 64, 6, x1, y1, 10, p, q, r, 192, 168, 0, 1, 1, 1, 1, 1, 1, 1, 1, 1, 1, 1, 1, 1, 1, 1, 1, 1, 1, 1, 1, 1, 1, 1, 1, 1, 1, 1, 1, 1, 1, 1, 1, 1] ++ d) (dAdr false m) = ([77, 0, a, b, 0, 0, 64, 0, 64, 6, x2, y2, 10, p, q, r, 172, 16, 0, t] ++ (List.replicate 32 1 ++ d))) (hr2 : v4Read ([77, 0, a, b, 0, 0, 64, 0, 64, 6, x2, y2, 10, p, q, r, 172, 16, 0, t] ++ (List.replicate 32 1 ++ d)) = rd4 52 L 6 (kSrc false n) (dAdr false m)) :
    ∃ h', Runs Try.prog 6 [.int .i64 n, .int .i64 k, slB 0 d, .int .i64 m] [farB d] (.bool true) h' := by
  have wS : adrWf (kSrc false n) = true := by rw [kSrc_B]; exact adrB_wf rfl
  have wD : adrWf (kDst false) = true := by rw [kDst_B]; exact adrB_wf rfl
  have wT : adrWf (dAdr false m) = true := by rw [dAdr_B]; exact adrB_wf rfl
  have hwr : IntKind.i64.wrap (32 + (d.length : Int)) = 32 + d.length := wrapI64 (by omega)
  refine Runs.valT0 (tO4Ok 67 [69, 0, a, b, 0, 0, 64, 0, 64, 6, x, y, 10, p, q, r, 192, 168, 0, 1] ([77, 0, a, b, 0, 0, 64, 0, 64, 6, x2, y2, 10, p, q, r, 172, 16, 0, t] ++ (List.replicate 32 1 ++ d)) c (rd4 52 L 6 (kSrc false n) (kDst false)) (rd4 52 L 6 (kSrc false n) (dAdr false m))) (F := 100) (n := 4) (pr := [(24, .bool false), (27, .int .i64 8), (103, .bool true), (110, .bool true), (121, .bool true), (127, .bool true), (134, .bool true), (143, .bool true)]) ?_
  refine (nfFourOptions8 n k m c L a b x y p q r x2 y2 t d _).trans ?_
  refine (if_pos (decide_eq_false (by omega))).trans ?_
  refine (if_pos ⟨rfl, hk⟩).trans ?_
  refine (if_pos (cdec_true.2 (say4M (cs := kSrc false n) (ds := kDst false) (M := [69, 0, a, b, 0, 0, 64, 0, 64, 6, x, y, 10, p, q, r, 192, 168, 0, 1]) wS wD (by decide) ?_ ?_ rfl))).trans ?_
  · rw [hwr]; exact hm
  · rw [hwr]; exact hM
  refine (if_pos (cdec_true.2 (sayRS (l := [77, 0, a, b, 0, 0, 64, 0, 64, 6, 0, 0, 10, p, q, r, 192, 168, 0, 1, 1, 1, 1, 1, 1, 1, 1, 1, 1, 1, 1, 1, 1, 1, 1, 1, 1, 1, 1, 1, 1, 1, 1, 1, 1, 1, 1, 1, 1, 1, 1, 1]) (bOk_row rfl rfl rfl) (by simp <;> omega) hcs))).trans ?_
  refine (if_pos (by simp <;> omega)).trans ?_
  refine (if_pos ⟨by simp <;> omega, rfl, by simp <;> omega⟩).trans ?_
  refine (if_pos ⟨rfl, rfl, .inr rfl, rfl, by simp⟩).trans ?_
  have hcell : ∀ cs : List AV, cs = [AV.int IntKind.u8 77, AV.int IntKind.u8 0, AV.int IntKind.u8 (a.toNat : Int), AV.int IntKind.u8 (b.toNat : Int), AV.int IntKind.u8 0, AV.int IntKind.u8 0, AV.int IntKind.u8 64, AV.int IntKind.u8 0, AV.int IntKind.u8 64, AV.int IntKind.u8 6, AV.int IntKind.u8 (IntKind.u8.wrap ((IntKind.i64.wrap (65535 - (65535 - c))).fdiv 256)), AV.int IntKind.u8 (IntKind.u8.wrap (IntKind.i64.wrap (65535 - (65535 - c)))), AV.int IntKind.u8 10, AV.int IntKind.u8 (p.toNat : Int), AV.int IntKind.u8 (q.toNat : Int), AV.int IntKind.u8 (r.toNat : Int), AV.int IntKind.u8 192, AV.int IntKind.u8 168, AV.int IntKind.u8 0, AV.int IntKind.u8 1, AV.int IntKind.u8 1, AV.int IntKind.u8 1, AV.int IntKind.u8 1, AV.int IntKind.u8 1, AV.int IntKind.u8 1, AV.int IntKind.u8 1, AV.int IntKind.u8 1, AV.int IntKind.u8 1, AV.int IntKind.u8 1, AV.int IntKind.u8 1, AV.int IntKind.u8 1, AV.int IntKind.u8 1, AV.int IntKind.u8 1, AV.int IntKind.u8 1, AV.int IntKind.u8 1, AV.int IntKind.u8 1, AV.int IntKind.u8 1, AV.int IntKind.u8 1, AV.int IntKind.u8 1, AV.int IntKind.u8 1, AV.int IntKind.u8 1, AV.int IntKind.u8 1, AV.int IntKind.u8 1, AV.int IntKind.u8 1, AV.int IntKind.u8 1, AV.int IntKind.u8 1, AV.int IntKind.u8 1, AV.int IntKind.u8 1, AV.int IntKind.u8 1, AV.int IntKind.u8 1, AV.int IntKind.u8 1, AV.int IntKind.u8 1] ++ List.take (d.length * 1) (bys d) → cs = bys ([77, 0, a, b, 0, 0, 64, 0, 64, 6, x1, y1, 10, p, q, r, 192, 168, 0, 1, 1, 1, 1, 1, 1, 1, 1, 1, 1, 1, 1, 1, 1, 1, 1, 1, 1, 1, 1, 1, 1, 1, 1, 1, 1, 1, 1, 1, 1, 1, 1, 1] ++ d) := by
    intro cs h
    rw [h, hw1, hw2, bys_full]; rfl
  refine (if_pos (cdec_true.2 (say4R (l := ([77, 0, a, b, 0, 0, 64, 0, 64, 6, x1, y1, 10, p, q, r, 192, 168, 0, 1, 1, 1, 1, 1, 1, 1, 1, 1, 1, 1, 1, 1, 1, 1, 1, 1, 1, 1, 1, 1, 1, 1, 1, 1, 1, 1, 1, 1, 1, 1, 1, 1] ++ d)) (bOk_row rfl (hcell _ rfl) (by simp <;> omega)) (by simp <;> omega) hr1))).trans ?_
  refine (if_pos (cdec_true.2 (say4D (cs := dAdr false m) (l := ([77, 0, a, b, 0, 0, 64, 0, 64, 6, x1, y1, 10, p, q, r, 192, 168, 0, 1, 1, 1, 1, 1, 1, 1, 1, 1, 1, 1, 1, 1, 1, 1, 1, 1, 1, 1, 1, 1, 1, 1, 1, 1, 1, 1, 1, 1, 1, 1, 1, 1] ++ d)) (bOk_row rfl (hcell _ rfl) (by simp <;> omega)) (by simp <;> omega) wT hdd rfl))).trans ?_
  refine (if_pos (cdec_true.2 (say4R (l := ([77, 0, a, b, 0, 0, 64, 0, 64, 6, x2, y2, 10, p, q, r, 172, 16, 0, t] ++ (List.replicate 32 1 ++ d))) (bOk_row rfl rfl rfl) (by simp <;> omega) hr2))).trans ?_
  refine (if_pos (by simp <;> omega)).trans ?_
  refine (if_pos (by simp <;> omega)).trans ?_
  refine (if_pos (by simp <;> omega)).trans ?_
  refine (if_pos ⟨by decide, by simp <;> omega⟩).trans ?_
  refine (if_pos (by simp <;> omega)).trans ?_
  refine (if_pos (allB rfl)).trans ?_
  refine (if_pos ⟨by decide, by simp <;> omega⟩).trans ?_
  refine (if_pos (lenB (hcell _ rfl) (by simp <;> omega))).trans ?_
  refine (if_pos (allB (hcell _ rfl))).trans ?_
  refine (if_pos (decide_eq_true (txtEq (hcell _ rfl) (by simp <;> omega) (by simp <;> omega) rfl))).trans ?_
  rfl

theorem foWalk9 (n k m c L : Int) (a b x y p q r x1 y1 x2 y2 t : UInt8) (d : List UInt8) (hd : d.length ≤ 300) (hk : k % 11 = 9) (hL : L = 56 + d.length)
    (hM : make4 (kSrc false n) (kDst false) 6 (36 + d.length) = [69, 0, a, b, 0, 0, 64, 0, 64, 6, x, y, 10, p, q, r, 192, 168, 0, 1]) (hm : decide (makes4 (kSrc false n) (kDst false) (36 + d.length)) = true)
    (hcs : sumI [78, 0, a, b, 0, 0, 64, 0, 64, 6, 0, 0, 10, p, q, r, 192, 168, 0, 1, 1, 1, 1, 1, 1, 1, 1, 1, 1, 1, 1, 1, 1, 1, 1, 1, 1, 1, 1, 1, 1, 1, 1, 1, 1, 1, 1, 1, 1, 1, 1, 1, 1, 1, 1, 1] 0 = 65535 - c) (hw1 : IntKind.u8.wrap ((IntKind.i64.wrap (65535 - (65535 - c))).fdiv 256) = (x1.toNat : Int)) (hw2 : IntKind.u8.wrap (IntKind.i64.wrap (65535 - (65535 - c))) = (y1.toNat : Int))
    (hr1 : v4Read ([78, 0, a, b, 0, 0, 64, 0, 64, 6, x1, y1, 10, p, q, r, 192, 168, 0, 1, 1, 1, 1, 1, 1, 1, 1, 1, 1, 1, 1, 1, 1, 1, 1, 1, 1, 1, 1, 1, 1, 1, 1, 1, 1, 1, 1, 1, 1, 1, 1, 1, 1, 1, 1, 1] ++ d) = rd4 56 L 6 (kSrc false n) (kDst false)) (hdd : dest4 ([78, 0, a, b, 0, 0, 64, 0, 64, 6, x1, y1, 10, p, q, r, 192, 168, 0, 1, 1, 1, 1, 1, 1, 1, 1, 1, 1, 1, 1, 1, 1, 1, 1, 1, 1, 1, 1, 1, 1, 1, 1, 1, 1, 1, 1, 1, 1, 1, 1, 1, 1, 1, 1, 1] ++ d) (dAdr false m) = ([78, 0, a, b, 0, 0, 64, 0, 64, 6, x2, y2, 10, p, q, r, 172, 16, 0, t] ++ (List.replicate 36 1 ++ d))) (hr2 : v4Read ([78, 0, a, b, 0, 0, 64, 0, 64, 6, x2, y2, 10, p, q, r, 172, 16, 0, t] ++ (List.replicate 36 1 ++ d)) = rd4 56 L 6 (kSrc false n) (dAdr false m)) :
    ∃ h', Runs Try.prog 6 [.int .i64 n, .int .i64 k, slB 0 d, .int .i64 m] [farB d] (.bool true) h' := by
  have wS : adrWf (kSrc false n) = true := by rw [kSrc_B]; exact adrB_wf rfl
  have wD : adrWf (kDst false) = true := by rw [kDst_B]; exact adrB_wf rfl
  have wT : adrWf (dAdr false m) = true := by rw [dAdr_B]; exact adrB_wf rfl
  have hwr : IntKind.i64.wrap (36 + (d.length : Int)) = 36 + d.length := wrapI64 (by omega)
  refine Runs.valT0 (tO4Ok 75 [69, 0, a, b, 0, 0, 64, 0, 64, 6, x, y, 10, p, q, r, 192, 168, 0, 1] ([78, 0, a, b, 0, 0, 64, 0, 64, 6, x2, y2, 10, p, q, r, 172, 16, 0, t] ++ (List.replicate 36 1 ++ d)) c (rd4 56 L 6 (kSrc false n) (kDst false)) (rd4 56 L 6 (kSrc false n) (dAdr false m))) (F := 100) (n := 4) (pr := [(24, .bool false), (27, .int .i64 9), (103, .bool true), (110, .bool true), (121, .bool true), (127, .bool true), (134, .bool true), (143, .bool true)]) ?_
  refine (nfFourOptions9 n k m c L a b x y p q r x2 y2 t d _).trans ?_
  refine (if_pos (decide_eq_false (by omega))).trans ?_
  refine (if_pos ⟨rfl, hk⟩).trans ?_
  refine (if_pos (cdec_true.2 (say4M (cs := kSrc false n) (ds := kDst false) (M := [69, 0, a, b, 0, 0, 64, 0, 64, 6, x, y, 10, p, q, r, 192, 168, 0, 1]) wS wD (by decide) ?_ ?_ rfl))).trans ?_
  · rw [hwr]; exact hm
  · rw [hwr]; exact hM
  refine (if_pos (cdec_true.2 (sayRS (l := [78, 0, a, b, 0, 0, 64, 0, 64, 6, 0, 0, 10, p, q, r, 192, 168, 0, 1, 1, 1, 1, 1, 1, 1, 1, 1, 1, 1, 1, 1, 1, 1, 1, 1, 1, 1, 1, 1, 1, 1, 1, 1, 1, 1, 1, 1, 1, 1, 1, 1, 1, 1, 1, 1]) (bOk_row rfl rfl rfl) (by simp <;> omega) hcs))).trans ?_
  refine (if_pos (by simp <;> omega)).trans ?_
  refine (if_pos ⟨by simp <;> omega, rfl, by simp <;> omega⟩).trans ?_
  refine (if_pos ⟨rfl, rfl, .inr rfl, rfl, by simp⟩).trans ?_
  have hcell : ∀ cs : List AV, cs = [AV.int IntKind.u8 78, AV.int IntKind.u8 0, AV.int IntKind.u8 (a.toNat : Int), AV.int IntKind.u8 (b.toNat : Int), AV.int IntKind.u8 0, AV.int IntKind.u8 0, AV.int IntKind.u8 64, AV.int IntKind.u8 0, AV.int IntKind.u8 64, AV.int IntKind.u8 6, AV.int IntKind.u8 (IntKind.u8.wrap ((IntKind.i64.wrap (65535 - (65535 - c))).fdiv 256)), AV.int IntKind.u8 (IntKind.u8.wrap (IntKind.i64.wrap (65535 - (65535 - c)))), AV.int IntKind.u8 10, AV.int IntKind.u8 (p.toNat : Int), AV.int IntKind.u8 (q.toNat : Int), AV.int IntKind.u8 (r.toNat : Int), AV.int IntKind.u8 192, AV.int IntKind.u8 168, AV.int IntKind.u8 0, AV.int IntKind.u8 1, AV.int IntKind.u8 1, AV.int IntKind.u8 1, AV.int IntKind.u8 1, AV.int IntKind.u8 1, AV.int IntKind.u8 1, AV.int IntKind.u8 1, AV.int IntKind.u8 1, AV.int IntKind.u8 1, AV.int IntKind.u8 1, AV.int IntKind.u8 1, AV.int IntKind.u8 1, AV.int IntKind.u8 1, AV.int IntKind.u8 1, AV.int IntKind.u8 1, AV.int IntKind.u8 1, AV.int IntKind.u8 1, AV.int IntKind.u8 1, AV.int IntKind.u8 1, AV.int IntKind.u8 1, AV.int IntKind.u8 1, AV.int IntKind.u8 1, AV.int IntKind.u8 1, AV.int IntKind.u8 1, AV.int IntKind.u8 1, AV.int IntKind.u8 1, AV.int IntKind.u8 1, AV.int IntKind.u8 1, AV.int IntKind.u8 1, AV.int IntKind.u8 1, AV.int IntKind.u8 1, AV.int IntKind.u8 1, AV.int IntKind.u8 1, AV.int IntKind.u8 1, AV.int IntKind.u8 1, AV.int IntKind.u8 1, AV.int IntKind.u8 1] ++ List.take (d.length * 1) (bys d) → cs = bys ([78, 0, a, b, 0, 0, 64, 0, 64, 6, x1, y1, 10, p, q, r, 192, 168, 0, 1, 1, 1, 1, 1, 1, 1, 1, 1, 1, 1, 1, 1, 1, 1, 1, 1, 1, 1, 1, 1, 1, 1, 1, 1, 1, 1, 1, 1, 1, 1, 1, 1, 1, 1, 1, 1] ++ d) := by
    intro cs h
    rw [h, hw1, hw2, bys_full]; rfl
  refine (if_pos (cdec_true.2 (say4R (l := ([78, 0, a, b, 0, 0, 64, 0, 64, 6, x1, y1, 10, p, q, r, 192, 168, 0, 1, 1, 1, 1, 1, 1, 1, 1, 1, 1, 1, 1, 1, 1, 1, 1, 1, 1, 1, 1, 1, 1, 1, 1, 1, 1, 1, 1, 1, 1, 1, 1, 1, 1, 1, 1, 1] ++ d)) (bOk_row rfl (hcell _ rfl) (by simp <;> omega)) (by simp <;> omega) hr1))).trans ?_
  refine (if_pos (cdec_true.2 (say4D (cs := dAdr false m) (l := ([78, 0, a, b, 0, 0, 64, 0, 64, 6, x1, y1, 10, p, q, r, 192, 168, 0, 1, 1, 1, 1, 1, 1, 1, 1, 1, 1, 1, 1, 1, 1, 1, 1, 1, 1, 1, 1, 1, 1, 1, 1, 1, 1, 1, 1, 1, 1, 1, 1, 1, 1, 1, 1, 1] ++ d)) (bOk_row rfl (hcell _ rfl) (by simp <;> omega)) (by simp <;> omega) wT hdd rfl))).trans ?_
  refine (if_pos (cdec_true.2 (say4R (l := ([78, 0, a, b, 0, 0, 64, 0, 64, 6, x2, y2, 10, p, q, r, 172, 16, 0, t] ++ (List.replicate 36 1 ++ d))) (bOk_row rfl rfl rfl) (by simp <;> omega) hr2))).trans ?_
  refine (if_pos (by simp <;> omega)).trans ?_
  refine (if_pos (by simp <;> omega)).trans ?_
  refine (if_pos (by simp <;> omega)).trans ?_
  refine (if_pos ⟨by decide, by simp <;> omega⟩).trans ?_
  refine (if_pos (by simp <;> omega)).trans ?_
  refine (if_pos (allB rfl)).trans ?_
  refine (if_pos ⟨by decide, by simp <;> omega⟩).trans ?_
  refine (if_pos (lenB (hcell _ rfl) (by simp <;> omega))).trans ?_
  refine (if_pos (allB (hcell _ rfl))).trans ?_
  refine (if_pos (decide_eq_true (txtEq (hcell _ rfl) (by simp <;> omega) (by simp <;> omega) rfl))).trans ?_
  rfl

theorem foWalk10 (n k m c L : Int) (a b x y p q r x1 y1 x2 y2 t : UInt8) (d : List UInt8) (hd : d.length ≤ 300) (hk : k % 11 = 10) (hL : L = 60 + d.length)
    (hM : make4 (kSrc false n) (kDst false) 6 (40 + d.length) = [69, 0, a, b, 0, 0, 64, 0, 64, 6, x, y, 10, p, q, r, 192, 168, 0, 1]) (hm : decide (makes4 (kSrc false n) (kDst false) (40 + d.length)) = true)
    (hcs : sumI [79, 0, a, b, 0, 0, 64, 0, 64, 6, 0, 0, 10, p, q, r, 192, 168, 0, 1, 1, 1, 1, 1, 1, 1, 1, 1, 1, 1, 1, 1, 1, 1, 1, 1, 1, 1, 1, 1, 1, 1, 1, 1, 1, 1, 1, 1, 1, 1, 1, 1, 1, 1, 1, 1, 1, 1, 1, 1] 0 = 65535 - c) (hw1 : IntKind.u8.wrap ((IntKind.i64.wrap (65535 - (65535 - c))).fdiv 256) = (x1.toNat : Int)) (hw2 : IntKind.u8.wrap (IntKind.i64.wrap (65535 - (65535 - c))) = (y1.toNat : Int))
    (hr1 : v4Read ([79, 0, a, b, 0, 0, 64, 0, 64, 6, x1, y1, 10, p, q, r, 192, 168, 0, 1, 1, 1, 1, 1, 1, 1, 1, 1, 1, 1, 1, 1, 1, 1, 1, 1, 1, 1, 1, 1, 1, 1, 1, 1, 1, 1, 1, 1, 1, 1, 1, 1, 1, 1, 1, 1, 1, 1, 1, 1] ++ d) = rd4 60 L 6 (kSrc false n) (kDst false)) (hdd : dest4 ([79, 0, a, b, 0, 0, 64, 0, 64, 6, x1, y1, 10, p, q, r, 192, 168, 0, 1, 1, 1, 1, 1, 1, 1, 1, 1, 1, 1, 1, 1, 1, 1, 1, 1, 1, 1, 1, 1, 1, 1, 1, 1, 1, 1, 1, 1, 1, 1, 1, 1, 1, 1, 1, 1, 1, 1, 1, 1] ++ d) (dAdr false m) = ([79, 0, a, b, 0, 0, 64, 0, 64, 6, x2, y2, 10, p, q, r, 172, 16, 0, t] ++ (List.replicate 40 1 ++ d))) (hr2 : v4Read ([79, 0, a, b, 0, 0, 64, 0, 64, 6, x2, y2, 10, p, q, r, 172, 16, 0, t] ++ (List.replicate 40 1 ++ d)) = rd4 60 L 6 (kSrc false n) (dAdr false m)) :
    ∃ h', Runs Try.prog 6 [.int .i64 n, .int .i64 k, slB 0 d, .int .i64 m] [farB d] (.bool true) h' := by
  have wS : adrWf (kSrc false n) = true := by rw [kSrc_B]; exact adrB_wf rfl
  have wD : adrWf (kDst false) = true := by rw [kDst_B]; exact adrB_wf rfl
  have wT : adrWf (dAdr false m) = true := by rw [dAdr_B]; exact adrB_wf rfl
  have hwr : IntKind.i64.wrap (40 + (d.length : Int)) = 40 + d.length := wrapI64 (by omega)
  refine Runs.valT0 (tO4Ok 83 [69, 0, a, b, 0, 0, 64, 0, 64, 6, x, y, 10, p, q, r, 192, 168, 0, 1] ([79, 0, a, b, 0, 0, 64, 0, 64, 6, x2, y2, 10, p, q, r, 172, 16, 0, t] ++ (List.replicate 40 1 ++ d)) c (rd4 60 L 6 (kSrc false n) (kDst false)) (rd4 60 L 6 (kSrc false n) (dAdr false m))) (F := 100) (n := 4) (pr := [(24, .bool false), (27, .int .i64 10), (103, .bool true), (110, .bool true), (121, .bool true), (127, .bool true), (134, .bool true), (143, .bool true)]) ?_
  refine (nfFourOptions10 n k m c L a b x y p q r x2 y2 t d _).trans ?_
  refine (if_pos (decide_eq_false (by omega))).trans ?_
  refine (if_pos ⟨rfl, hk⟩).trans ?_
  refine (if_pos (cdec_true.2 (say4M (cs := kSrc false n) (ds := kDst false) (M := [69, 0, a, b, 0, 0, 64, 0, 64, 6, x, y, 10, p, q, r, 192, 168, 0, 1]) wS wD (by decide) ?_ ?_ rfl))).trans ?_
  · rw [hwr]; exact hm
  · rw [hwr]; exact hM
  refine (if_pos (cdec_true.2 (sayRS (l := [79, 0, a, b, 0, 0, 64, 0, 64, 6, 0, 0, 10, p, q, r, 192, 168, 0, 1, 1, 1, 1, 1, 1, 1, 1, 1, 1, 1, 1, 1, 1, 1, 1, 1, 1, 1, 1, 1, 1, 1, 1, 1, 1, 1, 1, 1, 1, 1, 1, 1, 1, 1, 1, 1, 1, 1, 1, 1]) (bOk_row rfl rfl rfl) (by simp <;> omega) hcs))).trans ?_
  refine (if_pos (by simp <;> omega)).trans ?_
  refine (if_pos ⟨by simp <;> omega, rfl, by simp <;> omega⟩).trans ?_
  refine (if_pos ⟨rfl, rfl, .inr rfl, rfl, by simp⟩).trans ?_
  have hcell : ∀ cs : List AV, cs = [AV.int IntKind.u8 79, AV.int IntKind.u8 0, AV.int IntKind.u8 (a.toNat : Int), AV.int IntKind.u8 (b.toNat : Int), AV.int IntKind.u8 0, AV.int IntKind.u8 0, AV.int IntKind.u8 64, AV.int IntKind.u8 0, AV.int IntKind.u8 64, AV.int IntKind.u8 6, AV.int IntKind.u8 (IntKind.u8.wrap ((IntKind.i64.wrap (65535 - (65535 - c))).fdiv 256)), AV.int IntKind.u8 (IntKind.u8.wrap (IntKind.i64.wrap (65535 - (65535 - c)))), AV.int IntKind.u8 10, AV.int IntKind.u8 (p.toNat : Int), AV.int IntKind.u8 (q.toNat : Int), AV.int IntKind.u8 (r.toNat : Int), AV.int IntKind.u8 192, AV.int IntKind.u8 168, AV.int IntKind.u8 0, AV.int IntKind.u8 1, AV.int IntKind.u8 1, AV.int IntKind.u8 1, AV.int IntKind.u8 1, AV.int IntKind.u8 1, AV.int IntKind.u8 1, AV.int IntKind.u8 1, AV.int IntKind.u8 1, AV.int IntKind.u8 1, AV.int IntKind.u8 1, AV.int IntKind.u8 1, AV.int IntKind.u8 1, AV.int IntKind.u8 1, AV.int IntKind.u8 1, AV.int IntKind.u8 1, AV.int IntKind.u8 1, AV.int IntKind.u8 1, AV.int IntKind.u8 1, AV.int IntKind.u8 1, AV.int IntKind.u8 1, AV.int IntKind.u8 1, AV.int IntKind.u8 1, AV.int IntKind.u8 1, AV.int IntKind.u8 1, AV.int IntKind.u8 1, AV.int IntKind.u8 1, AV.int IntKind.u8 1, AV.int IntKind.u8 1, AV.int IntKind.u8 1, AV.int IntKind.u8 1, AV.int IntKind.u8 1, AV.int IntKind.u8 1, AV.int IntKind.u8 1, AV.int IntKind.u8 1, AV.int IntKind.u8 1, AV.int IntKind.u8 1, AV.int IntKind.u8 1, AV.int IntKind.u8 1, AV.int IntKind.u8 1, AV.int IntKind.u8 1, AV.int IntKind.u8 1] ++ List.take (d.length * 1) (bys d) → cs = bys ([79, 0, a, b, 0, 0, 64, 0, 64, 6, x1, y1, 10, p, q, r, 192, 168, 0, 1, 1, 1, 1, 1, 1, 1, 1, 1, 1, 1, 1, 1, 1, 1, 1, 1, 1, 1, 1, 1, 1, 1, 1, 1, 1, 1, 1, 1, 1, 1, 1, 1, 1, 1, 1, 1, 1, 1, 1, 1] ++ d) := by
    intro cs h
    rw [h, hw1, hw2, bys_full]; rfl
  refine (if_pos (cdec_true.2 (say4R (l := ([79, 0, a, b, 0, 0, 64, 0, 64, 6, x1, y1, 10, p, q, r, 192, 168, 0, 1, 1, 1, 1, 1, 1, 1, 1, 1, 1, 1, 1, 1, 1, 1, 1, 1, 1, 1, 1, 1, 1, 1, 1, 1, 1, 1, 1, 1, 1, 1, 1, 1, 1, 1, 1, 1, 1, 1, 1, 1] ++ d)) (bOk_row rfl (hcell _ rfl) (by simp <;> omega)) (by simp <;> omega) hr1))).trans ?_
  refine (if_pos (cdec_true.2 (say4D (cs := dAdr false m) (l := ([79, 0, a, b, 0, 0, 64, 0, 64, 6, x1, y1, 10, p, q, r, 192, 168, 0, 1, 1, 1, 1, 1, 1, 1, 1, 1, 1, 1, 1, 1, 1, 1, 1, 1, 1, 1, 1, 1, 1, 1, 1, 1, 1, 1, 1, 1, 1, 1, 1, 1, 1, 1, 1, 1, 1, 1, 1, 1] ++ d)) (bOk_row rfl (hcell _ rfl) (by simp <;> omega)) (by simp <;> omega) wT hdd rfl))).trans ?_
  refine (if_pos (cdec_true.2 (say4R (l := ([79, 0, a, b, 0, 0, 64, 0, 64, 6, x2, y2, 10, p, q, r, 172, 16, 0, t] ++ (List.replicate 40 1 ++ d))) (bOk_row rfl rfl rfl) (by simp <;> omega) hr2))).trans ?_
  refine (if_pos (by simp <;> omega)).trans ?_
  refine (if_pos (by simp <;> omega)).trans ?_
  refine (if_pos (by simp <;> omega)).trans ?_
  refine (if_pos ⟨by decide, by simp <;> omega⟩).trans ?_
  refine (if_pos (by simp <;> omega)).trans ?_
  refine (if_pos (allB rfl)).trans ?_
  refine (if_pos ⟨by decide, by simp <;> omega⟩).trans ?_
  refine (if_pos (lenB (hcell _ rfl) (by simp <;> omega))).trans ?_
  refine (if_pos (allB (hcell _ rfl))).trans ?_
  refine (if_pos (decide_eq_true (txtEq (hcell _ rfl) (by simp <;> omega) (by simp <;> omega) rfl))).trans ?_
  rfl

def kS4 (n : Int) : List UInt8 := [10, u8i (kb1 n), u8i (kb2 n), u8i (kb3 n)]
def kD4 : List UInt8 := [192, 168, 0, 1]
def kT4 (m : Int) : List UInt8 := [172, 16, 0, u8i (db3 m)]
theorem foFacts (w : Nat) (hw : w ≤ 10) {O d : List UInt8} (hO : O.length = 4 * w) (n m : Int) (hd : d.length ≤ 300) {L N Z c : Int} (hN : N = 4 * (w : Int) + d.length) (hL : L = 20 + N) (hZ : Z = 20 + 4 * (w : Int)) (hc : c = chkI (hdO w L 6 0 (kS4 n) kD4 O)) :
    (∃ C0, make4 (kSrc false n) (kDst false) 6 N = hdO 0 L 6 C0 (kS4 n) kD4 []) ∧ decide (makes4 (kSrc false n) (kDst false) N) = true ∧ sumI (hdO w L 6 0 (kS4 n) kD4 O) 0 = 65535 - c ∧ (0 ≤ c ∧ c < 65536) ∧
    v4Read (pkO w L 6 c (kS4 n) kD4 O d) = rd4 Z L 6 (kSrc false n) (kDst false) ∧ ∃ C2, dest4 (pkO w L 6 c (kS4 n) kD4 O d) (dAdr false m) = pkO w L 6 C2 (kS4 n) (kT4 m) O d ∧
    v4Read (pkO w L 6 C2 (kS4 n) (kT4 m) O d) = rd4 Z L 6 (kSrc false n) (dAdr false m) := by
  subst hZ
  have hcr : 0 ≤ c ∧ c < 65536 := by rw [hc]; exact chkI_range _
  have hv : chkI (hdO w L 6 c (kS4 n) kD4 O) = 0 := by rw [hc]; exact hdO_make hw rfl rfl
  have h1 := pkO_read (d := d) (p := 6) hw (S := kS4 n) (D := kD4) rfl rfl hO (by omega) (.inl rfl) hv
  have hv2 : chkI (hdO w L 6 (changeI c kD4 (kT4 m)) (kS4 n) (kT4 m) O) = 0 := hdO_change hw hcr rfl rfl rfl hv
  have h2 := pkO_read (d := d) (p := 6) hw (S := kS4 n) (D := kT4 m) rfl rfl hO (by omega) (.inl rfl) hv2
  obtain ⟨mk1, mk2⟩ := pkO_make (n := N) (pr := 6) (X := kSrcB n) (Y := kDstB) (S := kS4 n) (D := kD4) (by omega) rfl rfl
  have e0 : (20 : Int) + N = L := hL.symm
  refine ⟨⟨chkI (hdO 0 L (u8i 6) 0 (kS4 n) kD4 []), ?_⟩, ?_, ?_, hcr, ?_, changeI c kD4 (kT4 m), ?_, ?_⟩
  · rw [kSrc_B, kDst_B, mk2 rfl rfl, e0]; rfl
  · rw [kSrc_B, kDst_B]; exact decide_eq_true mk1
  · rw [hc]; unfold chkI; omega
  · unfold v4Read; rw [h1.1, h1.2, kSrc_B, kDst_B]; rfl
  · rw [dAdr_B]; exact pkO_dest rfl rfl hcr rfl rfl h1.1
  · unfold v4Read; rw [h2.1, h2.2, kSrc_B, dAdr_B]; rfl

theorem fo0 (n k m : Int) (d : List UInt8) (hd : d.length ≤ 300) (hk : k % 11 = 0) : ∃ h', Runs Try.prog 6 [.int .i64 n, .int .i64 k, slB 0 d, .int .i64 m] [farB d] (.bool true) h' := by
  have e : u8i (69 + ((0 : Nat) : Int)) = 69 := by decide
  have l1 : ∀ (L C : Int) (D : List UInt8), hdO 0 L 6 C (kS4 n) D [] = 69 :: ([0, u8i (L / 256), u8i L, 0, 0, 64, 0, 64, 6, u8i (C / 256), u8i C] ++ kS4 n ++ D ++ []) := fun L C D => by unfold hdO; rw [e]; rfl
  obtain ⟨⟨C0, h1⟩, h2, h3, hc, h4, C2, h5, h6⟩ := foFacts 0 (by decide) (O := []) rfl n m hd (N := 0 + d.length) (Z := 20) (by simp) rfl (by simp) rfl
  unfold pkO at h4 h5 h6
  rw [l1] at h4 h5 h6 h3
  rw [l1] at h5
  obtain ⟨w1, w2⟩ := fdivC _ hc
  exact foWalk0 n k m _ _ _ _ _ _ _ _ _ _ _ _ _ _ d hd hk (by omega) h1 h2 h3 w1 w2 h4 h5 h6

theorem fo1 (n k m : Int) (d : List UInt8) (hd : d.length ≤ 300) (hk : k % 11 = 1) : ∃ h', Runs Try.prog 6 [.int .i64 n, .int .i64 k, slB 0 d, .int .i64 m] [farB d] (.bool true) h' := by
  have e : u8i (69 + ((1 : Nat) : Int)) = 70 := by decide
  have l1 : ∀ (L C : Int) (D : List UInt8), hdO 1 L 6 C (kS4 n) D [1, 1, 1, 1] = 70 :: ([0, u8i (L / 256), u8i L, 0, 0, 64, 0, 64, 6, u8i (C / 256), u8i C] ++ kS4 n ++ D ++ [1, 1, 1, 1]) := fun L C D => by unfold hdO; rw [e]; rfl
  obtain ⟨⟨C0, h1⟩, h2, h3, hc, h4, C2, h5, h6⟩ := foFacts 1 (by decide) (O := [1, 1, 1, 1]) rfl n m hd (N := 4 + d.length) (Z := 24) (by simp) rfl (by simp) rfl
  unfold pkO at h4 h5 h6
  rw [l1] at h4 h5 h6 h3
  rw [l1] at h5
  obtain ⟨w1, w2⟩ := fdivC _ hc
  exact foWalk1 n k m _ _ _ _ _ _ _ _ _ _ _ _ _ _ d hd hk (by omega) h1 h2 h3 w1 w2 h4 h5 h6

theorem fo2 (n k m : Int) (d : List UInt8) (hd : d.length ≤ 300) (hk : k % 11 = 2) : ∃ h', Runs Try.prog 6 [.int .i64 n, .int .i64 k, slB 0 d, .int .i64 m] [farB d] (.bool true) h' := by
  have e : u8i (69 + ((2 : Nat) : Int)) = 71 := by decide
  have l1 : ∀ (L C : Int) (D : List UInt8), hdO 2 L 6 C (kS4 n) D [1, 1, 1, 1, 1, 1, 1, 1] = 71 :: ([0, u8i (L / 256), u8i L, 0, 0, 64, 0, 64, 6, u8i (C / 256), u8i C] ++ kS4 n ++ D ++ [1, 1, 1, 1, 1, 1, 1, 1]) := fun L C D => by unfold hdO; rw [e]; rfl
  obtain ⟨⟨C0, h1⟩, h2, h3, hc, h4, C2, h5, h6⟩ := foFacts 2 (by decide) (O := [1, 1, 1, 1, 1, 1, 1, 1]) rfl n m hd (N := 8 + d.length) (Z := 28) (by simp) rfl (by simp) rfl
  unfold pkO at h4 h5 h6
  rw [l1] at h4 h5 h6 h3
  rw [l1] at h5
  obtain ⟨w1, w2⟩ := fdivC _ hc
  exact foWalk2 n k m _ _ _ _ _ _ _ _ _ _ _ _ _ _ d hd hk (by omega) h1 h2 h3 w1 w2 h4 h5 h6

theorem fo3 (n k m : Int) (d : List UInt8) (hd : d.length ≤ 300) (hk : k % 11 = 3) : ∃ h', Runs Try.prog 6 [.int .i64 n, .int .i64 k, slB 0 d, .int .i64 m] [farB d] (.bool true) h' := by
  have e : u8i (69 + ((3 : Nat) : Int)) = 72 := by decide
  have l1 : ∀ (L C : Int) (D : List UInt8), hdO 3 L 6 C (kS4 n) D [1, 1, 1, 1, 1, 1, 1, 1, 1, 1, 1, 1] = 72 :: ([0, u8i (L / 256), u8i L, 0, 0, 64, 0, 64, 6, u8i (C / 256), u8i C] ++ kS4 n ++ D ++ [1, 1, 1, 1, 1, 1, 1, 1, 1, 1, 1, 1]) := fun L C D => by unfold hdO; rw [e]; rfl
  obtain ⟨⟨C0, h1⟩, h2, h3, hc, h4, C2, h5, h6⟩ := foFacts 3 (by decide) (O := [1, 1, 1, 1, 1, 1, 1, 1, 1, 1, 1, 1]) rfl n m hd (N := 12 + d.length) (Z := 32) (by simp) rfl (by simp) rfl
  unfold pkO at h4 h5 h6
  rw [l1] at h4 h5 h6 h3
  rw [l1] at h5
  obtain ⟨w1, w2⟩ := fdivC _ hc
  exact foWalk3 n k m _ _ _ _ _ _ _ _ _ _ _ _ _ _ d hd hk (by omega) h1 h2 h3 w1 w2 h4 h5 h6

theorem fo4 (n k m : Int) (d : List UInt8) (hd : d.length ≤ 300) (hk : k % 11 = 4) : ∃ h', Runs Try.prog 6 [.int .i64 n, .int .i64 k, slB 0 d, .int .i64 m] [farB d] (.bool true) h' := by
  have e : u8i (69 + ((4 : Nat) : Int)) = 73 := by decide
  have l1 : ∀ (L C : Int) (D : List UInt8), hdO 4 L 6 C (kS4 n) D [1, 1, 1, 1, 1, 1, 1, 1, 1, 1, 1, 1, 1, 1, 1, 1] = 73 :: ([0, u8i (L / 256), u8i L, 0, 0, 64, 0, 64, 6, u8i (C / 256), u8i C] ++ kS4 n ++ D ++ [1, 1, 1, 1, 1, 1, 1, 1, 1, 1, 1, 1, 1, 1, 1, 1]) := fun L C D => by unfold hdO; rw [e]; rfl
  obtain ⟨⟨C0, h1⟩, h2, h3, hc, h4, C2, h5, h6⟩ := foFacts 4 (by decide) (O := [1, 1, 1, 1, 1, 1, 1, 1, 1, 1, 1, 1, 1, 1, 1, 1]) rfl n m hd (N := 16 + d.length) (Z := 36) (by simp) rfl (by simp) rfl
  unfold pkO at h4 h5 h6
  rw [l1] at h4 h5 h6 h3
  rw [l1] at h5
  obtain ⟨w1, w2⟩ := fdivC _ hc
  exact foWalk4 n k m _ _ _ _ _ _ _ _ _ _ _ _ _ _ d hd hk (by omega) h1 h2 h3 w1 w2 h4 h5 h6

theorem fo5 (n k m : Int) (d : List UInt8) (hd : d.length ≤ 300) (hk : k % 11 = 5) : ∃ h', Runs Try.prog 6 [.int .i64 n, .int .i64 k, slB 0 d, .int .i64 m] [farB d] (.bool true) h' := by
  have e : u8i (69 + ((5 : Nat) : Int)) = 74 := by decide
  have l1 : ∀ (L C : Int) (D : List UInt8), hdO 5 L 6 C (kS4 n) D [1, 1, 1, 1, 1, 1, 1, 1, 1, 1, 1, 1, 1, 1, 1, 1, 1, 1, 1, 1] = 74 :: ([0, u8i (L / 256), u8i L, 0, 0, 64, 0, 64, 6, u8i (C / 256), u8i C] ++ kS4 n ++ D ++ [1, 1, 1, 1, 1, 1, 1, 1, 1, 1, 1, 1, 1, 1, 1, 1, 1, 1, 1, 1]) := fun L C D => by unfold hdO; rw [e]; rfl
  obtain ⟨⟨C0, h1⟩, h2, h3, hc, h4, C2, h5, h6⟩ := foFacts 5 (by decide) (O := [1, 1, 1, 1, 1, 1, 1, 1, 1, 1, 1, 1, 1, 1, 1, 1, 1, 1, 1, 1]) rfl n m hd (N := 20 + d.length) (Z := 40) (by simp) rfl (by simp) rfl
  unfold pkO at h4 h5 h6
  rw [l1] at h4 h5 h6 h3
  rw [l1] at h5
  obtain ⟨w1, w2⟩ := fdivC _ hc
  exact foWalk5 n k m _ _ _ _ _ _ _ _ _ _ _ _ _ _ d hd hk (by omega) h1 h2 h3 w1 w2 h4 h5 h6

theorem fo6 (n k m : Int) (d : List UInt8) (hd : d.length ≤ 300) (hk : k % 11 = 6) : ∃ h', Runs Try.prog 6 [.int .i64 n, .int .i64 k, slB 0 d, .int .i64 m] [farB d] (.bool true) h' := by
  have e : u8i (69 + ((6 : Nat) : Int)) = 75 := by decide
  have l1 : ∀ (L C : Int) (D : List UInt8), hdO 6 L 6 C (kS4 n) D [1, 1, 1, 1, 1, 1, 1, 1, 1, 1, 1, 1, 1, 1, 1, 1, 1, 1, 1, 1, 1, 1, 1, 1] = 75 :: ([0, u8i (L / 256), u8i L, 0, 0, 64, 0, 64, 6, u8i (C / 256), u8i C] ++ kS4 n ++ D ++ [1, 1, 1, 1, 1, 1, 1, 1, 1, 1, 1, 1, 1, 1, 1, 1, 1, 1, 1, 1, 1, 1, 1, 1]) := fun L C D => by unfold hdO; rw [e]; rfl
  obtain ⟨⟨C0, h1⟩, h2, h3, hc, h4, C2, h5, h6⟩ := foFacts 6 (by decide) (O := [1, 1, 1, 1, 1, 1, 1, 1, 1, 1, 1, 1, 1, 1, 1, 1, 1, 1, 1, 1, 1, 1, 1, 1]) rfl n m hd (N := 24 + d.length) (Z := 44) (by simp) rfl (by simp) rfl
  unfold pkO at h4 h5 h6
  rw [l1] at h4 h5 h6 h3
  rw [l1] at h5
  obtain ⟨w1, w2⟩ := fdivC _ hc
  exact foWalk6 n k m _ _ _ _ _ _ _ _ _ _ _ _ _ _ d hd hk (by omega) h1 h2 h3 w1 w2 h4 h5 h6

theorem fo7 (n k m : Int) (d : List UInt8) (hd : d.length ≤ 300) (hk : k % 11 = 7) : ∃ h', Runs Try.prog 6 [.int .i64 n, .int .i64 k, slB 0 d, .int .i64 m] [farB d] (.bool true) h' := by
  have e : u8i (69 + ((7 : Nat) : Int)) = 76 := by decide
  have l1 : ∀ (L C : Int) (D : List UInt8), hdO 7 L 6 C (kS4 n) D [1, 1, 1, 1, 1, 1, 1, 1, 1, 1, 1, 1, 1, 1, 1, 1, 1, 1, 1, 1, 1, 1, 1, 1, 1, 1, 1, 1] = 76 :: ([0, u8i (L / 256), u8i L, 0, 0, 64, 0, 64, 6, u8i (C / 256), u8i C] ++ kS4 n ++ D ++ [1, 1, 1, 1, 1, 1, 1, 1, 1, 1, 1, 1, 1, 1, 1, 1, 1, 1, 1, 1, 1, 1, 1, 1, 1, 1, 1, 1]) := fun L C D => by unfold hdO; rw [e]; rfl
  obtain ⟨⟨C0, h1⟩, h2, h3, hc, h4, C2, h5, h6⟩ := foFacts 7 (by decide) (O := [1, 1, 1, 1, 1, 1, 1, 1, 1, 1, 1, 1, 1, 1, 1, 1, 1, 1, 1, 1, 1, 1, 1, 1, 1, 1, 1, 1]) rfl n m hd (N := 28 + d.length) (Z := 48) (by simp) rfl (by simp) rfl
  unfold pkO at h4 h5 h6
  rw [l1] at h4 h5 h6 h3
  rw [l1] at h5
  obtain ⟨w1, w2⟩ := fdivC _ hc
  exact foWalk7 n k m _ _ _ _ _ _ _ _ _ _ _ _ _ _ d hd hk (by omega) h1 h2 h3 w1 w2 h4 h5 h6

theorem fo8 (n k m : Int) (d : List UInt8) (hd : d.length ≤ 300) (hk : k % 11 = 8) : ∃ h', Runs Try.prog 6 [.int .i64 n, .int .i64 k, slB 0 d, .int .i64 m] [farB d] (.bool true) h' := by
  have e : u8i (69 + ((8 : Nat) : Int)) = 77 := by decide
  have l1 : ∀ (L C : Int) (D : List UInt8), hdO 8 L 6 C (kS4 n) D [1, 1, 1, 1, 1, 1, 1, 1, 1, 1, 1, 1, 1, 1, 1, 1, 1, 1, 1, 1, 1, 1, 1, 1, 1, 1, 1, 1, 1, 1, 1, 1] = 77 :: ([0, u8i (L / 256), u8i L, 0, 0, 64, 0, 64, 6, u8i (C / 256), u8i C] ++ kS4 n ++ D ++ [1, 1, 1, 1, 1, 1, 1, 1, 1, 1, 1, 1, 1, 1, 1, 1, 1, 1, 1, 1, 1, 1, 1, 1, 1, 1, 1, 1, 1, 1, 1, 1]) := fun L C D => by unfold hdO; rw [e]; rfl
  obtain ⟨⟨C0, h1⟩, h2, h3, hc, h4, C2, h5, h6⟩ := foFacts 8 (by decide) (O := [1, 1, 1, 1, 1, 1, 1, 1, 1, 1, 1, 1, 1, 1, 1, 1, 1, 1, 1, 1, 1, 1, 1, 1, 1, 1, 1, 1, 1, 1, 1, 1]) rfl n m hd (N := 32 + d.length) (Z := 52) (by simp) rfl (by simp) rfl
  unfold pkO at h4 h5 h6
  rw [l1] at h4 h5 h6 h3
  rw [l1] at h5
  obtain ⟨w1, w2⟩ := fdivC _ hc
  exact foWalk8 n k m _ _ _ _ _ _ _ _ _ _ _ _ _ _ d hd hk (by omega) h1 h2 h3 w1 w2 h4 h5 h6

theorem fo9 (n k m : Int) (d : List UInt8) (hd : d.length ≤ 300) (hk : k % 11 = 9) : ∃ h', Runs Try.prog 6 [.int .i64 n, .int .i64 k, slB 0 d, .int .i64 m] [farB d] (.bool true) h' := by
  have e : u8i (69 + ((9 : Nat) : Int)) = 78 := by decide
  have l1 : ∀ (L C : Int) (D : List UInt8), hdO 9 L 6 C (kS4 n) D [1, 1, 1, 1, 1, 1, 1, 1, 1, 1, 1, 1, 1, 1, 1, 1, 1, 1, 1, 1, 1, 1, 1, 1, 1, 1, 1, 1, 1, 1, 1, 1, 1, 1, 1, 1] = 78 :: ([0, u8i (L / 256), u8i L, 0, 0, 64, 0, 64, 6, u8i (C / 256), u8i C] ++ kS4 n ++ D ++ [1, 1, 1, 1, 1, 1, 1, 1, 1, 1, 1, 1, 1, 1, 1, 1, 1, 1, 1, 1, 1, 1, 1, 1, 1, 1, 1, 1, 1, 1, 1, 1, 1, 1, 1, 1]) := fun L C D => by unfold hdO; rw [e]; rfl
  obtain ⟨⟨C0, h1⟩, h2, h3, hc, h4, C2, h5, h6⟩ := foFacts 9 (by decide) (O := [1, 1, 1, 1, 1, 1, 1, 1, 1, 1, 1, 1, 1, 1, 1, 1, 1, 1, 1, 1, 1, 1, 1, 1, 1, 1, 1, 1, 1, 1, 1, 1, 1, 1, 1, 1]) rfl n m hd (N := 36 + d.length) (Z := 56) (by simp) rfl (by simp) rfl
  unfold pkO at h4 h5 h6
  rw [l1] at h4 h5 h6 h3
  rw [l1] at h5
  obtain ⟨w1, w2⟩ := fdivC _ hc
  exact foWalk9 n k m _ _ _ _ _ _ _ _ _ _ _ _ _ _ d hd hk (by omega) h1 h2 h3 w1 w2 h4 h5 h6

theorem fo10 (n k m : Int) (d : List UInt8) (hd : d.length ≤ 300) (hk : k % 11 = 10) : ∃ h', Runs Try.prog 6 [.int .i64 n, .int .i64 k, slB 0 d, .int .i64 m] [farB d] (.bool true) h' := by
  have e : u8i (69 + ((10 : Nat) : Int)) = 79 := by decide
  have l1 : ∀ (L C : Int) (D : List UInt8), hdO 10 L 6 C (kS4 n) D [1, 1, 1, 1, 1, 1, 1, 1, 1, 1, 1, 1, 1, 1, 1, 1, 1, 1, 1, 1, 1, 1, 1, 1, 1, 1, 1, 1, 1, 1, 1, 1, 1, 1, 1, 1, 1, 1, 1, 1] = 79 :: ([0, u8i (L / 256), u8i L, 0, 0, 64, 0, 64, 6, u8i (C / 256), u8i C] ++ kS4 n ++ D ++ [1, 1, 1, 1, 1, 1, 1, 1, 1, 1, 1, 1, 1, 1, 1, 1, 1, 1, 1, 1, 1, 1, 1, 1, 1, 1, 1, 1, 1, 1, 1, 1, 1, 1, 1, 1, 1, 1, 1, 1]) := fun L C D => by unfold hdO; rw [e]; rfl
  obtain ⟨⟨C0, h1⟩, h2, h3, hc, h4, C2, h5, h6⟩ := foFacts 10 (by decide) (O := [1, 1, 1, 1, 1, 1, 1, 1, 1, 1, 1, 1, 1, 1, 1, 1, 1, 1, 1, 1, 1, 1, 1, 1, 1, 1, 1, 1, 1, 1, 1, 1, 1, 1, 1, 1, 1, 1, 1, 1]) rfl n m hd (N := 40 + d.length) (Z := 60) (by simp) rfl (by simp) rfl
  unfold pkO at h4 h5 h6
  rw [l1] at h4 h5 h6 h3
  rw [l1] at h5
  obtain ⟨w1, w2⟩ := fdivC _ hc
  exact foWalk10 n k m _ _ _ _ _ _ _ _ _ _ _ _ _ _ d hd hk (by omega) h1 h2 h3 w1 w2 h4 h5 h6

theorem runFourOptions (n k : Int) (d : List UInt8) (m : Int) (hn : -9223372036854775808 ≤ n ∧ n < 9223372036854775808) (hk : -9223372036854775808 ≤ k ∧ k < 9223372036854775808) (hl : d.length ≤ maxLen) (hm : -9223372036854775808 ≤ m ∧ m < 9223372036854775808) :
    ∃ h', Runs Try.prog 6 [.int .i64 n, .int .i64 k, slB 0 d, .int .i64 m] [farB d] (.bool true) h' := by
  by_cases hd : d.length ≤ 300
  · have : k % 11 = 0 ∨ k % 11 = 1 ∨ k % 11 = 2 ∨ k % 11 = 3 ∨ k % 11 = 4 ∨ k % 11 = 5 ∨ k % 11 = 6 ∨ k % 11 = 7 ∨ k % 11 = 8 ∨ k % 11 = 9 ∨ k % 11 = 10 := by omega
    rcases this with h | h | h | h | h | h | h | h | h | h | h
    · exact fo0 n k m d hd h
    · exact fo1 n k m d hd h
    · exact fo2 n k m d hd h
    · exact fo3 n k m d hd h
    · exact fo4 n k m d hd h
    · exact fo5 n k m d hd h
    · exact fo6 n k m d hd h
    · exact fo7 n k m d hd h
    · exact fo8 n k m d hd h
    · exact fo9 n k m d hd h
    · exact fo10 n k m d hd h
  · refine Runs.valT0 tB4Ok (F := 100) (n := 4) (pr := [(24, .bool true)]) ?_
    refine (nfFourOptionsB n k m d _).trans ?_
    refine (if_pos (decide_eq_true (by omega))).trans ?_
    rfl

end Go.Proofs.Ytmlmdbicbpicbaa.L
