/- SlotsTells' run. -/
import Derived.Test.YtlppbeoiphglcaaSlotsTellsN
set_option autoImplicit false
set_option maxRecDepth 100000
set_option linter.unusedVariables false
set_option linter.unusedSimpArgs false
namespace Go.Proofs.Ytlppbeoiphglcaa.L
open Go Go.Abs

theorem fits_dip {x : List CK} {r : List AV} (h : FitsK (.bool :: .int .u8 :: .int .u8 :: .int .u8 :: .int .u8 :: .int .u8 :: .int .u8 :: .int .u8 :: .int .u8 :: .int .u8 :: .int .u8 :: .int .u8 :: .int .u8 :: .int .u8 :: .int .u8 :: .int .u8 :: .int .u8 :: .int .u16 :: x) r) : ∃ (d : DipC) (t : List AV), r = d.cells ++ t ∧ FitsK x t := by
  cases h with
  | bool v _ _ h =>
  cases h with
  | int _ a0 _ _ _ h => cases h with
  | int _ a1 _ _ _ h => cases h with
  | int _ a2 _ _ _ h => cases h with
  | int _ a3 _ _ _ h => cases h with
  | int _ a4 _ _ _ h => cases h with
  | int _ a5 _ _ _ h => cases h with
  | int _ a6 _ _ _ h => cases h with
  | int _ a7 _ _ _ h => cases h with
  | int _ a8 _ _ _ h => cases h with
  | int _ a9 _ _ _ h => cases h with
  | int _ a10 _ _ _ h => cases h with
  | int _ a11 _ _ _ h => cases h with
  | int _ a12 _ _ _ h => cases h with
  | int _ a13 _ _ _ h => cases h with
  | int _ a14 _ _ _ h => cases h with
  | int _ a15 _ _ _ h => cases h with
  | int _ p _ _ t h =>
  exact ⟨⟨v, [a0, a1, a2, a3, a4, a5, a6, a7, a8, a9, a10, a11, a12, a13, a14, a15], p, rfl⟩, t, rfl, h⟩
theorem rows_dips : ∀ {rows : List (List AV)}, (∀ r ∈ rows, FitsK [.bool, .int .u8, .int .u8, .int .u8, .int .u8, .int .u8, .int .u8, .int .u8, .int .u8, .int .u8, .int .u8, .int .u8, .int .u8, .int .u8, .int .u8, .int .u8, .int .u8, .int .u16] r) → ∃ D : List DipC, rows.flatten = dipsC D ∧ D.length = rows.length
  | [], _ => ⟨[], rfl, rfl⟩
  | r :: rows, h => by
    obtain ⟨D, h1, h2⟩ := rows_dips (rows := rows) fun r hr => h r (by simp [hr])
    obtain ⟨d, t, rfl, ht⟩ := fits_dip (h r (by simp))
    cases ht
    exact ⟨d :: D, by rw [List.flatten_cons, h1, List.append_nil]; rfl, by simp [h2]⟩
theorem rows_members : ∀ {rows : List (List AV)}, (∀ r ∈ rows, FitsK [.bool, .int .u8, .int .u8, .int .u8, .int .u8, .int .u8, .int .u8, .int .u8, .int .u8, .int .u8, .int .u8, .int .u8, .int .u8, .int .u8, .int .u8, .int .u8, .int .u8, .int .u16, .int .i64] r) → ∃ P : PL, rows.flatten = itP P ∧ P.length = rows.length
  | [], _ => ⟨[], rfl, rfl⟩
  | r :: rows, h => by
    obtain ⟨P, h1, h2⟩ := rows_members (rows := rows) fun r hr => h r (by simp [hr])
    obtain ⟨d, t, rfl, ht⟩ := fits_dip (h r (by simp))
    cases ht with
    | int _ w _ _ _ ht =>
    cases ht
    exact ⟨(d, w) :: P, by rw [List.flatten_cons, h1]; rfl, by simp [h2]⟩
theorem shP_le (P : PL) (n : Int) : (shP P n).length ≤ P.length := by
  by_cases h : n < 0 ∨ 64 < n ∨ chkP P ≠ 0 ∨ P = []
  · unfold shP; rw [if_pos h]; simp
  · have h0 : ¬ n < 0 := fun x => h (.inl x)
    have h1 : ¬ 64 < n := fun x => h (.inr (.inl x))
    have h2 : chkP P = 0 := Classical.byContradiction fun x => h (.inr (.inr (.inl x)))
    have h3 : P ≠ [] := fun x => h (.inr (.inr (.inr x)))
    rw [shP_len (by omega) (by omega) h2 h3]; omega
theorem fillP_le (P : PL) (D : List DipC) (n : Int) : (fillP P D n).length ≤ 64 := by
  by_cases hb : badF P D n ∨ P = []
  · unfold fillP; rw [if_pos hb]; simp
  · obtain ⟨b0, b1, b2, b3⟩ := badF_not fun h => hb (.inl h)
    have hp : P ≠ [] := fun h => hb (.inr h)
    have hp' : 0 < P.length := by cases P with | nil => exact absurd rfl hp | cons _ _ => simp
    unfold fillP; rw [if_neg hb]
    have hSl : (shP P n).length = P.length := shP_len (by omega) (by omega) b2 hp
    have hSn := shP_nonneg (P := P) (n := n) (by omega) (by omega) b2 hp'
    have hSs := shP_sum (P := P) (n := n) (by omega) (by omega) b2 hp'
    have hxl : (flX P D (shP P n) n.toNat).length = n.toNat := (fl2_inv hSl hSn (by omega) _ (Nat.le_refl _)).xl
    omega

theorem runSlotsTells (ms ds : List (List AV)) (n : Int) (hm : ∀ r ∈ ms, FitsK [.bool, .int .u8, .int .u8, .int .u8, .int .u8, .int .u8, .int .u8, .int .u8, .int .u8, .int .u8, .int .u8, .int .u8, .int .u8, .int .u8, .int .u8, .int .u8, .int .u8, .int .u16, .int .i64] r) (_ : ms.length ≤ maxLen)
    (hd : ∀ r ∈ ds, FitsK [.bool, .int .u8, .int .u8, .int .u8, .int .u8, .int .u8, .int .u8, .int .u8, .int .u8, .int .u8, .int .u8, .int .u8, .int .u8, .int .u8, .int .u8, .int .u8, .int .u8, .int .u16] r) (_ : ds.length ≤ maxLen) (_ : -9223372036854775808 ≤ n ∧ n < 9223372036854775808) :
    ∃ h', Runs Try.prog 3 [.sl (some (0, 0)) ms.length 0 false, .sl (some (1, 0)) ds.length 0 false, .int .i64 n] [.cells ms.flatten 19 .far none, .cells ds.flatten 18 .far none] (.bool true) h' := by
  obtain ⟨P, hP1, hP2⟩ := rows_members hm
  obtain ⟨D, hD1, hD2⟩ := rows_dips hd
  rw [hP1, hD1, ← hP2, ← hD2]
  clear hm hd hP1 hP2 hD1 hD2
  generalize hX : fillP P D n = X
  generalize hS : shP P n = S
  generalize hE : fillE P D n = e
  refine Runs.valT0 (tSTOk X X S S X.length X.length S.length S.length e e) (F := 100) (n := 4) (pr := []) ?_
  refine (nfST ..).trans ?_
  by_cases h1 : P.length ≤ 40
  case neg => exact if_neg (by simp; omega)
  refine (if_pos (decide_eq_true (by omega))).trans ?_
  by_cases h2 : D.length ≤ 70
  case neg => exact if_pos (by simp; omega)
  refine (if_neg (by simp; omega)).trans ?_
  have hXl : X.length ≤ 64 := by rw [← hX]; exact fillP_le P D n
  have hSl : S.length ≤ P.length := by rw [← hS]; exact shP_le P n
  refine (if_pos (cdec_true.2 (.mk P D n _ _ _ (rowDs_blk rfl rfl) (rowP_blk rfl rfl) X _ e hX rfl hE))).trans ?_
  refine (if_pos (cdec_true.2 (.mk P D n _ _ _ (rowDs_blk rfl rfl) (rowP_blk rfl rfl) (by omega) X _ e hX rfl hE))).trans ?_
  obtain ⟨a1, a2⟩ := ckF_ok (rowP_blk (P := P) (h := hST4 (itP P) (dipsC D) P.length D.length n X X S S X.length X.length S.length S.length e e) (k := 0) (n := P.length) (r := 0) (e := false) rfl rfl)
  obtain ⟨b1, b2⟩ := mb_ok (rowP_blk (P := P) (h := hST4 (itP P) (dipsC D) P.length D.length n X X S S X.length X.length S.length S.length e e) (k := 0) (n := P.length) (r := 0) (e := false) rfl rfl) (by omega)
  refine (if_pos (cdec_true.2 a1)).trans ?_
  refine (if_pos (cdec_true.2 b1)).trans ?_
  refine (if_pos (by rw [a2, b2]; by_cases hc : chkP P = 0 <;> simp [hc])).trans ?_
  refine (if_pos (cdec_true.2 (.mk P n _ _ (rowP_blk rfl rfl) S _ hS rfl))).trans ?_
  refine (if_pos (cdec_true.2 (.mk P n _ _ (rowP_blk rfl rfl) (by omega) S _ hS rfl))).trans ?_
  refine (if_pos (cdec_true.2 (.mk S _ _ _ (rowI_blk rfl rfl) (rowI_blk rfl rfl) (by omega)))).trans ?_
  refine (if_pos (cdec_true.2 (.mk X _ _ _ (rowDs_blk rfl rfl) (rowDs_blk rfl rfl) (by omega)))).trans ?_
  refine (if_pos (by simp)).trans ?_
  obtain ⟨c1, c2⟩ := mvU (A := D) (B := X) (h := hST9 (itP P) (dipsC D) P.length D.length n X X S S X.length X.length S.length S.length e e) (a := .sl (some (1, 0)) D.length 0 false) (b := .sl (some (2, 0)) X.length 0 false) (rowDs_blk rfl rfl) (rowDs_blk rfl rfl) (by omega) (by omega)
  obtain ⟨d1, d2⟩ := rmU (A := D) (B := X) (h := hST9 (itP P) (dipsC D) P.length D.length n X X S S X.length X.length S.length S.length e e) (a := .sl (some (1, 0)) D.length 0 false) (b := .sl (some (2, 0)) X.length 0 false) (rowDs_blk rfl rfl) (rowDs_blk rfl rfl) (by omega) (by omega)
  refine (if_pos (cdec_true.2 c1)).trans ?_
  refine (if_pos (cdec_true.2 d1)).trans ?_
  refine (if_pos (by rw [c2, d2]; simp)).trans ?_
  rfl

end Go.Proofs.Ytlppbeoiphglcaa.L
