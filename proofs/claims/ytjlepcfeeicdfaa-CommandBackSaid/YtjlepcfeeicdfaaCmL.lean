/- Orders as arguments. -/
import Derived.Test.YtjlepcfeeicdfaaCmA
import Derived.Test.YtjlepcfeeicdfaaScK
set_option autoImplicit false
set_option maxRecDepth 100000
set_option linter.unusedVariables false
set_option linter.unusedSimpArgs false
namespace Go.Proofs.Ytjlepcfeeicdfaa.L
open Go Go.Abs

theorem fits_split : ∀ {l1 l2 : List CK} {m : List AV}, FitsK (l1 ++ l2) m → ∃ m1 m2, m = m1 ++ m2 ∧ FitsK l1 m1 ∧ FitsK l2 m2
  | [], _, m, h => ⟨[], m, rfl, .nil, h⟩
  | _ :: l1, l2, _, h => by
    cases h with
    | int k n hw _ m t =>
      obtain ⟨m1, m2, rfl, h1, h2⟩ := fits_split (l1 := l1) (l2 := l2) t
      exact ⟨_ :: m1, m2, rfl, .int _ _ hw _ _ h1, h2⟩
    | bool b _ m t =>
      obtain ⟨m1, m2, rfl, h1, h2⟩ := fits_split (l1 := l1) (l2 := l2) t
      exact ⟨_ :: m1, m2, rfl, .bool _ _ _ h1, h2⟩
    | str s _ m t =>
      obtain ⟨m1, m2, rfl, h1, h2⟩ := fits_split (l1 := l1) (l2 := l2) t
      exact ⟨_ :: m1, m2, rfl, .str _ _ _ h1, h2⟩
theorem adr_bys {v : Bool} {X : List UInt8} (h : X.length = 16) : adrWf (.bool v :: bys X) = true := by
  obtain ⟨y, rfl⟩ := lit16 h
  have h : ∀ i, 0 ≤ ((y i).toNat : Int) ∧ ((y i).toNat : Int) < 256 := fun i => by have := (y i).toNat_lt; omega
  simp [adrWf, isByteR, bys, h]
theorem fits_ok {x : List CK} {r : List AV} (h : FitsK ((.bool :: List.replicate 16 (.int .u8)) ++ (.int .u16 :: x)) r) : ∃ d t, r = DipC.cells d ++ t ∧ okD d ∧ FitsK x t := by
  obtain ⟨m1, m2, rfl, h1, h2⟩ := fits_split h
  obtain ⟨v, X, rfl, hX⟩ := addr_fits h1
  cases h2 with
  | int _ pt hw _ t ht =>
  have hp := u16_wf hw
  have ha := adr_bys (v := v) hX
  obtain ⟨w, y, he⟩ := adrWf_fn ha
  rw [he] at ha ⊢
  exact ⟨dF w y pt, t, by rw [dF_cells, List.append_assoc]; rfl, ⟨ha, hp⟩, ht⟩
theorem dip_ok {r : List AV} (h : FitsK ((.bool :: List.replicate 16 (.int .u8)) ++ [.int .u16]) r) : ∃ d, r = DipC.cells d ∧ okD d := by
  obtain ⟨d, t, rfl, h1, h2⟩ := fits_ok h
  cases h2
  exact ⟨d, List.append_nil _, h1⟩
theorem cmd_ok {r : List AV} (h : FitsK (.int .i64 :: .int .u8 :: ((.bool :: List.replicate 16 (.int .u8)) ++ [.int .u16])) r) : ∃ k pr d, r = cmH k pr d ∧ okD d ∧ 0 ≤ pr ∧ pr < 256 := by
  cases h with
  | int _ k _ _ m h => cases h with
  | int _ pr hw _ m h =>
  obtain ⟨d, rfl, hd⟩ := dip_ok h
  exact ⟨k, pr, d, rfl, hd, byte_wf hw⟩
theorem rows_okP : ∀ {rows : List (List AV)}, (∀ r ∈ rows, FitsK ((.bool :: List.replicate 16 (.int .u8)) ++ [.int .u16, .int .i64]) r) → ∃ P : PL, rows.flatten = itP P ∧ P.length = rows.length ∧ okP P
  | [], _ => ⟨[], rfl, rfl, fun m hm => by cases hm⟩
  | r :: rows, h => by
    obtain ⟨P, h1, h2, h3⟩ := rows_okP (rows := rows) fun r hr => h r (by simp [hr])
    obtain ⟨d, t, rfl, hd, ht⟩ := fits_ok (h r (by simp))
    cases ht with
    | int _ w _ _ _ ht =>
    cases ht
    refine ⟨(d, w) :: P, by rw [List.flatten_cons, h1]; rfl, by simp [h2], fun m hm => ?_⟩
    rcases List.mem_cons.1 hm with rfl | hm
    · exact hd
    · exact h3 m hm
theorem strEq {Z : List UInt8} : 0 + Z.length ≤ (bys Z).length ∧ (List.take Z.length (bys Z)).all isByte = true := ⟨by simp, by rw [List.take_of_length_le (by simp)]; exact bysAll Z⟩

end Go.Proofs.Ytjlepcfeeicdfaa.L
