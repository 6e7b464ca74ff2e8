/- The reference's Encode: its contract. -/
import Derived.Test.YtjlepcfeeicdfaaErN
set_option autoImplicit false
set_option maxRecDepth 100000
set_option linter.unusedVariables false
set_option linter.unusedSimpArgs false
namespace Go.Proofs.Ytjlepcfeeicdfaa.L
open Go Go.Abs

theorem plcX_D (d : DipC) : plcX d.cells = plcD d := by
  obtain ⟨w, x, po, rfl⟩ := dF_of d
  rfl
theorem sRbE : SoundE Try.prog 17 (entF eRb) := by
  refine canonR_sound fun args h v h' hg => ?_
  unfold eRb at hg
  split at hg
  · rename_i cs
    simp only [Option.some.injEq, Prod.mk.injEq, Bool.and_eq_true, decide_eq_true_eq] at hg
    obtain ⟨⟨hw, hl, hi, hp⟩, rfl, rfl⟩ := hg
    rw [opq_eq]
    have e1 : cs[17]? = some (.int .u16 (intV cs[17]?)) := by
      revert hi
      cases cs[17]? with
      | none => simp [isIntV]
      | some a =>
        cases a <;> simp [isIntV]
    have e : cs = cs.take 17 ++ [.int .u16 (intV cs[17]?)] := by
      have h1 : cs = cs.take 17 ++ cs.drop 17 := (List.take_append_drop _ _).symm
      have h2 : cs.drop 17 = [cs[17]] := by rw [List.drop_eq_getElem_cons (by omega), List.drop_eq_nil_of_le (by omega)]
      have e2 : cs[17] = .int .u16 (intV cs[17]?) := by
        rw [List.getElem?_eq_getElem (by omega)] at e1
        rw [List.getElem?_eq_getElem (by omega)]
        exact Option.some.inj e1
      rw [h2, e2] at h1
      exact h1
    have ex : plcX cs = plcL (cs.take 17) (intV cs[17]?) := rfl
    rw [ex]
    generalize intV cs[17]? = po at *
    generalize hc : cs.take 17 = c at *
    subst e
    obtain ⟨h', hr, par, h5⟩ := runRb hw hp
    have hf : AV.free (.agg (c ++ [.int .u16 po])) = true := dip_free hw
    exact ⟨[.agg (c ++ [.int .u16 po])], [], .cons _ _ _ _ _ _ _ (.flat _ _ hf) (.nil _), _, _, hr, [some 5], _, rfl, denRow (n := (plcL c po).length) (by simp) h5 (by simp) (by simp), ksOk1 _⟩
  · simp at hg
theorem tEmOk : ∀ f E, tEm.find f = some E → SoundE Try.prog f E := find_cons sRVald (find_cons sRbE (find_nil _))
theorem boxE_keep {ρ : Nat → Option Nat} (h0 : ρ 0 = some 0) {k pr : Int} {w : Bool} {x : Nat → Int} {po : Int} {n : Nat} : BR ρ (.cells (cmA k pr w x po (.sl (some (0, 0)) n 0 false)) 21 .own none) (boxE k pr w x po n) :=
  BR.keep (n := 1) (fun i hi => by
    cases i with
    | zero => exact h0
    | succ i => omega) rfl
def stEr (B : ABlk) (Z : List UInt8) (P : PL) (i : Nat) : List AV × AHeap := if i = 0 then (vEr 6 Z.length 0, hEr0 (itP P) B Z) else (vEr 7 (enZ Z P i).length i, hEr (itP P) B (enZ Z P i))
theorem badM_no {k : Int} {m : DipC × Int} (h : badM k m = false) : adrValid (m.1.cells.take 17) = true ∧ 0 ≤ m.2 ∧ m.2 ≤ 255 ∧ (k = 4 → m.2 = 0) := by
  unfold badM at h
  simp only [Bool.or_eq_false_iff, Bool.not_eq_false', decide_eq_false_iff_not, Bool.and_eq_false_iff] at h
  obtain ⟨h1, h2, h3, h4⟩ := h
  refine ⟨h1, by omega, by omega, fun h => ?_⟩
  rcases h4 with g | g
  · exact absurd h g
  · omega

theorem illC_take18 (x : DipC) (v : Int) : List.take 18 (illC x v) = x.cells := by unfold illC; exact List.take_left' (by simp)
theorem cells_p (d : DipC) : d.cells[17]? = some (.int .u16 d.p) := by
  obtain ⟨w', x, po, rfl⟩ := dF_of d
  rfl
theorem stepEra {Z : List UInt8} {P : PL} {i : Nat} {k pr : Int} {w : Bool} {x : Nat → Int} {po : Int} (hZ : Z.length ≤ 100000000) (hl : P.length ≤ 1000000) (hi : i < P.length) (ho : okD P[i].1) (hb : badM k P[i] = false) :
    ∃ vs1 h1, qround Try.prog tEm 100 4 [(72, .bool true), (104, .bool false)] noT ERL mEr (vEr 6 Z.length i) (hEr0 (itP P) (boxE k pr w x po P.length) Z) = some (.norm, vs1, h1) ∧ Gc 7 vs1 h1 (vEr 7 (Z ++ (plcD P[i].1 ++ [u8i P[i].2])).length ((i + 1 : Nat) : Int)) (hEr (itP P) (boxE k pr w x po P.length) (Z ++ (plcD P[i].1 ++ [u8i P[i].2]))) := by
  have e5 := wrap1 (i := i) (by omega)
  have hL := itP_length P
  have h20 := plcD_le ho
  obtain ⟨o1, o2, o3⟩ := ho
  have o1' : adrWf (List.take 17 P[i].1.cells) = true := o1
  obtain ⟨b1, b2, b3, b4⟩ := badM_no hb
  rw [nfEra]
  refine ⟨?_, ?_, ?_, ?_⟩
  rotate_left 2
  · simp only [memC_it hi, ill_17, illC_take18, cells_p, ill_w, intV_some, opq_eq, plcX_D, e5]
    refine (if_pos (by simp; omega)).trans ?_
    refine (if_pos (by omega)).trans ?_
    refine (if_pos (by omega)).trans ?_
    refine (if_pos (by simp; omega)).trans ?_
    refine (if_pos (by rw [show 0 + (i : Int).toNat * 19 = i * 19 by omega, itP_19 hi]; exact ⟨by simp, illC_cell _ _⟩)).trans ?_
    refine (if_pos (by simp)).trans ?_
    refine (if_pos (cdec_true.2 (isAdr_dip _))).trans ?_
    refine (if_neg (by rw [b1]; decide)).trans ?_
    refine (if_pos rfl).trans ?_
    refine (if_neg (by simpa using b2)).trans ?_
    refine (if_pos rfl).trans ?_
    refine (if_neg (by simpa using b3)).trans ?_
    by_cases hk : k = 4
    · refine (if_pos (by simpa using hk)).trans ?_
      refine (if_pos rfl).trans ?_
      refine (if_pos (by simpa using b4 hk)).trans ?_
      refine (if_pos (by simp)).trans ?_
      refine (if_pos (by rw [o1', decide_eq_true (by simp), decide_eq_true (show 0 ≤ P[i].1.p ∧ P[i].1.p < 65536 from ⟨o2, o3⟩)]; rfl)).trans ?_
      repeat (first | (refine (if_pos ?_).trans ?_; · first | trivial | omega | (refine ⟨?_, ?_, ?_⟩ <;> first | trivial | omega) | (refine ⟨?_, ?_, ?_, ?_, ?_⟩ <;> first | trivial | omega | (simp; done)) | exact beq_self_int _ _ | (simp; done)))
      rfl
    · refine (if_neg (by simpa using hk)).trans ?_
      refine (if_pos (by simp)).trans ?_
      refine (if_pos (by rw [o1', decide_eq_true (by simp), decide_eq_true (show 0 ≤ P[i].1.p ∧ P[i].1.p < 65536 from ⟨o2, o3⟩)]; rfl)).trans ?_
      repeat (first | (refine (if_pos ?_).trans ?_; · first | trivial | omega | (refine ⟨?_, ?_, ?_⟩ <;> first | trivial | omega) | (refine ⟨?_, ?_, ?_, ?_, ?_⟩ <;> first | trivial | omega | (simp; done)) | exact beq_self_int _ _ | (simp; done)))
      rfl
  · unfold hEra0
    simp only [memC_it hi, ill_17, illC_take18, cells_p, ill_w, intV_some, opq_eq, plcX_D]
    generalize plcD P[i].1 = A at *
    have et : List.take ((Z.length + A.length) * 1) (List.take (Z.length * 1) (bys Z) ++ List.take (A.length * 1) (bys A)) ++ [AV.int IntKind.u8 (IntKind.u8.wrap P[i].2)] = bys (Z ++ (A ++ [u8i P[i].2])) := by
      rw [Nat.mul_one, Nat.mul_one, Nat.mul_one, List.take_of_length_le (l := bys Z) (by simp), List.take_of_length_le (l := bys A) (by simp), List.take_of_length_le (by simp), wrapU8]
      simp [bys]
    rw [et, show Z.length + A.length + 1 = (Z ++ (A ++ [u8i P[i].2])).length by simp; omega]
    exact Gc.by [0, 1, 2, 3, 4, 5, 6, 11] rfl (by decide) (.cons _ _ _ _ (.ptr _ _ _ rfl) (.cons _ _ _ _ (.free _ rfl) (.cons _ _ _ _ (.free _ rfl) (.cons _ _ _ _ (.sl _ _ _ _ _ _ rfl) (.free _ rfl))))) (.cons _ _ _ _ _ rfl (.row (itP_frees _) (by simp)) (.cons _ _ _ _ _ rfl (boxE_keep (by rfl)) (.cons _ _ _ _ _ rfl (.dead _) (.cons _ _ _ _ _ rfl (.dead _) (.cons _ _ _ _ _ rfl (.dead _) (.cons _ _ _ _ _ rfl (.dead _) (.cons _ _ _ _ _ rfl (.dead _) (.cons _ _ _ _ _ rfl (BR.grown (by simp) rfl) .nil))))))))
theorem badEra {Z : List UInt8} {P : PL} {i : Nat} {k pr : Int} {w : Bool} {x : Nat → Int} {po : Int} (hl : P.length ≤ 1000000) (hi : i < P.length) (hb : badM k P[i] = true) :
    qround Try.prog tEm 100 4 [(72, .bool true), (104, .bool true)] noT ERL mEr (vEr 6 Z.length i) (hEr0 (itP P) (boxE k pr w x po P.length) Z) = some (.ret, vEr 6 Z.length i, hErba0 (itP P) k pr w x po Z P.length i) := by
  have hL := itP_length P
  rw [nfErba]
  unfold badM at hb
  simp only [memC_it hi, ill_17, illC_take18, cells_p, ill_w, intV_some, opq_eq, plcX_D]
  refine (if_pos (by simp; omega)).trans ?_
  refine (if_pos (by omega)).trans ?_
  refine (if_pos (by omega)).trans ?_
  refine (if_pos (by simp; omega)).trans ?_
  refine (if_pos (by rw [show 0 + (i : Int).toNat * 19 = i * 19 by omega, itP_19 hi]; exact ⟨by simp, illC_cell _ _⟩)).trans ?_
  refine (if_pos (by simp)).trans ?_
  refine (if_pos (cdec_true.2 (isAdr_dip _))).trans ?_
  by_cases h1 : adrValid (P[i].1.cells.take 17) = true
  · refine (if_neg (by rw [h1]; decide)).trans ?_
    refine (if_pos rfl).trans ?_
    by_cases h2 : P[i].2 < 0
    · exact if_pos (by simpa using h2)
    refine (if_neg (by simpa using h2)).trans ?_
    refine (if_pos rfl).trans ?_
    by_cases h3 : P[i].2 > 255
    · exact if_pos (by simpa using h3)
    refine (if_neg (by simpa using h3)).trans ?_
    rw [h1, decide_eq_false h2, decide_eq_false h3] at hb
    simp only [Bool.not_true, Bool.false_or, Bool.and_eq_true, decide_eq_true_eq] at hb
    refine (if_pos (by simpa using hb.1)).trans ?_
    refine (if_pos rfl).trans ?_
    exact if_pos (by simpa using hb.2)
  · exact if_pos (by simpa using h1)
theorem okEra {Z : List UInt8} {P : PL} {i : Int} {k pr : Int} {w : Bool} {x : Nat → Int} {po : Int} : Gc 7 (vEr 6 Z.length i) (hErba0 (itP P) k pr w x po Z P.length i) (vEr 6 Z.length i) (hEr0 (itP P) (boxE k pr w x po P.length) Z) :=
  Gc.by [0, 1, 2, 3, 4, 5, 6] rfl (by decide) (.cons _ _ _ _ (.ptr _ _ _ rfl) (.cons _ _ _ _ (.free _ rfl) (.cons _ _ _ _ (.free _ rfl) (.cons _ _ _ _ (.sl _ _ _ _ _ _ rfl) (.free _ rfl))))) (.cons _ _ _ _ _ rfl (.row (itP_frees _) (by simp)) (.cons _ _ _ _ _ rfl (boxE_keep (by rfl)) (.cons _ _ _ _ _ rfl (.dead _) (.cons _ _ _ _ _ rfl (.dead _) (.cons _ _ _ _ _ rfl (.dead _) (.cons _ _ _ _ _ rfl (.dead _) (.cons _ _ _ _ _ rfl (.row (by simp) (by simp)) .nil)))))))

theorem stepErb {Z : List UInt8} {P : PL} {i : Nat} {k pr : Int} {w : Bool} {x : Nat → Int} {po : Int} (hZ : Z.length ≤ 100000000) (hl : P.length ≤ 1000000) (hi : i < P.length) (ho : okD P[i].1) (hb : badM k P[i] = false) :
    ∃ vs1 h1, qround Try.prog tEm 100 4 [(72, .bool true), (104, .bool false)] noT ERL mEr (vEr 7 Z.length i) (hEr (itP P) (boxE k pr w x po P.length) Z) = some (.norm, vs1, h1) ∧ Gc 7 vs1 h1 (vEr 7 (Z ++ (plcD P[i].1 ++ [u8i P[i].2])).length ((i + 1 : Nat) : Int)) (hEr (itP P) (boxE k pr w x po P.length) (Z ++ (plcD P[i].1 ++ [u8i P[i].2]))) := by
  have e5 := wrap1 (i := i) (by omega)
  have hL := itP_length P
  have h20 := plcD_le ho
  obtain ⟨o1, o2, o3⟩ := ho
  have o1' : adrWf (List.take 17 P[i].1.cells) = true := o1
  obtain ⟨b1, b2, b3, b4⟩ := badM_no hb
  rw [nfErb]
  refine ⟨?_, ?_, ?_, ?_⟩
  rotate_left 2
  · simp only [memC_it hi, ill_17, illC_take18, cells_p, ill_w, intV_some, opq_eq, plcX_D, e5]
    refine (if_pos (by simp; omega)).trans ?_
    refine (if_pos (by omega)).trans ?_
    refine (if_pos (by omega)).trans ?_
    refine (if_pos (by simp; omega)).trans ?_
    refine (if_pos (by rw [show 0 + (i : Int).toNat * 19 = i * 19 by omega, itP_19 hi]; exact ⟨by simp, illC_cell _ _⟩)).trans ?_
    refine (if_pos (by simp)).trans ?_
    refine (if_pos (cdec_true.2 (isAdr_dip _))).trans ?_
    refine (if_neg (by rw [b1]; decide)).trans ?_
    refine (if_pos rfl).trans ?_
    refine (if_neg (by simpa using b2)).trans ?_
    refine (if_pos rfl).trans ?_
    refine (if_neg (by simpa using b3)).trans ?_
    by_cases hk : k = 4
    · refine (if_pos (by simpa using hk)).trans ?_
      refine (if_pos rfl).trans ?_
      refine (if_pos (by simpa using b4 hk)).trans ?_
      refine (if_pos (by simp)).trans ?_
      refine (if_pos (by rw [o1', decide_eq_true (by simp), decide_eq_true (show 0 ≤ P[i].1.p ∧ P[i].1.p < 65536 from ⟨o2, o3⟩)]; rfl)).trans ?_
      repeat (first | (refine (if_pos ?_).trans ?_; · first | trivial | omega | (refine ⟨?_, ?_, ?_⟩ <;> first | trivial | omega) | (refine ⟨?_, ?_, ?_, ?_, ?_⟩ <;> first | trivial | omega | (simp; done)) | exact beq_self_int _ _ | (simp; done)))
      rfl
    · refine (if_neg (by simpa using hk)).trans ?_
      refine (if_pos (by simp)).trans ?_
      refine (if_pos (by rw [o1', decide_eq_true (by simp), decide_eq_true (show 0 ≤ P[i].1.p ∧ P[i].1.p < 65536 from ⟨o2, o3⟩)]; rfl)).trans ?_
      repeat (first | (refine (if_pos ?_).trans ?_; · first | trivial | omega | (refine ⟨?_, ?_, ?_⟩ <;> first | trivial | omega) | (refine ⟨?_, ?_, ?_, ?_, ?_⟩ <;> first | trivial | omega | (simp; done)) | exact beq_self_int _ _ | (simp; done)))
      rfl
  · unfold hErb0
    simp only [memC_it hi, ill_17, illC_take18, cells_p, ill_w, intV_some, opq_eq, plcX_D]
    generalize plcD P[i].1 = A at *
    have et : List.take ((Z.length + A.length) * 1) (List.take (Z.length * 1) (bys Z) ++ List.take (A.length * 1) (bys A)) ++ [AV.int IntKind.u8 (IntKind.u8.wrap P[i].2)] = bys (Z ++ (A ++ [u8i P[i].2])) := by
      rw [Nat.mul_one, Nat.mul_one, Nat.mul_one, List.take_of_length_le (l := bys Z) (by simp), List.take_of_length_le (l := bys A) (by simp), List.take_of_length_le (by simp), wrapU8]
      simp [bys]
    rw [et, show Z.length + A.length + 1 = (Z ++ (A ++ [u8i P[i].2])).length by simp; omega]
    exact Gc.by [0, 1, 2, 3, 4, 5, 6, 12] rfl (by decide) (.cons _ _ _ _ (.ptr _ _ _ rfl) (.cons _ _ _ _ (.free _ rfl) (.cons _ _ _ _ (.free _ rfl) (.cons _ _ _ _ (.sl _ _ _ _ _ _ rfl) (.free _ rfl))))) (.cons _ _ _ _ _ rfl (.row (itP_frees _) (by simp)) (.cons _ _ _ _ _ rfl (boxE_keep (by rfl)) (.cons _ _ _ _ _ rfl (.dead _) (.cons _ _ _ _ _ rfl (.dead _) (.cons _ _ _ _ _ rfl (.dead _) (.cons _ _ _ _ _ rfl (.dead _) (.cons _ _ _ _ _ rfl (.dead _) (.cons _ _ _ _ _ rfl (BR.grown (by simp) rfl) .nil))))))))
theorem badErb {Z : List UInt8} {P : PL} {i : Nat} {k pr : Int} {w : Bool} {x : Nat → Int} {po : Int} (hl : P.length ≤ 1000000) (hi : i < P.length) (hb : badM k P[i] = true) :
    qround Try.prog tEm 100 4 [(72, .bool true), (104, .bool true)] noT ERL mEr (vEr 7 Z.length i) (hEr (itP P) (boxE k pr w x po P.length) Z) = some (.ret, vEr 7 Z.length i, hErbb0 (itP P) k pr w x po Z P.length i) := by
  have hL := itP_length P
  rw [nfErbb]
  unfold badM at hb
  simp only [memC_it hi, ill_17, illC_take18, cells_p, ill_w, intV_some, opq_eq, plcX_D]
  refine (if_pos (by simp; omega)).trans ?_
  refine (if_pos (by omega)).trans ?_
  refine (if_pos (by omega)).trans ?_
  refine (if_pos (by simp; omega)).trans ?_
  refine (if_pos (by rw [show 0 + (i : Int).toNat * 19 = i * 19 by omega, itP_19 hi]; exact ⟨by simp, illC_cell _ _⟩)).trans ?_
  refine (if_pos (by simp)).trans ?_
  refine (if_pos (cdec_true.2 (isAdr_dip _))).trans ?_
  by_cases h1 : adrValid (P[i].1.cells.take 17) = true
  · refine (if_neg (by rw [h1]; decide)).trans ?_
    refine (if_pos rfl).trans ?_
    by_cases h2 : P[i].2 < 0
    · exact if_pos (by simpa using h2)
    refine (if_neg (by simpa using h2)).trans ?_
    refine (if_pos rfl).trans ?_
    by_cases h3 : P[i].2 > 255
    · exact if_pos (by simpa using h3)
    refine (if_neg (by simpa using h3)).trans ?_
    rw [h1, decide_eq_false h2, decide_eq_false h3] at hb
    simp only [Bool.not_true, Bool.false_or, Bool.and_eq_true, decide_eq_true_eq] at hb
    refine (if_pos (by simpa using hb.1)).trans ?_
    refine (if_pos rfl).trans ?_
    exact if_pos (by simpa using hb.2)
  · exact if_pos (by simpa using h1)
theorem okErb {Z : List UInt8} {P : PL} {i : Int} {k pr : Int} {w : Bool} {x : Nat → Int} {po : Int} : Gc 7 (vEr 7 Z.length i) (hErbb0 (itP P) k pr w x po Z P.length i) (vEr 7 Z.length i) (hEr (itP P) (boxE k pr w x po P.length) Z) :=
  Gc.by [0, 1, 2, 3, 4, 5, 6, 7] rfl (by decide) (.cons _ _ _ _ (.ptr _ _ _ rfl) (.cons _ _ _ _ (.free _ rfl) (.cons _ _ _ _ (.free _ rfl) (.cons _ _ _ _ (.sl _ _ _ _ _ _ rfl) (.free _ rfl))))) (.cons _ _ _ _ _ rfl (.row (itP_frees _) (by simp)) (.cons _ _ _ _ _ rfl (boxE_keep (by rfl)) (.cons _ _ _ _ _ rfl (.dead _) (.cons _ _ _ _ _ rfl (.dead _) (.cons _ _ _ _ _ rfl (.dead _) (.cons _ _ _ _ _ rfl (.dead _) (.cons _ _ _ _ _ rfl (.dead _) (.cons _ _ _ _ _ rfl (.row (by simp) (by simp)) .nil))))))))

theorem stepEr {B : ABlk} {Z : List UInt8} {P : PL} {i : Nat} {k pr : Int} {w : Bool} {x : Nat → Int} {po : Int} (hB : B = boxE k pr w x po P.length) (hZ : Z.length ≤ 1000000) (hl : P.length ≤ 1000000) (ho : okP P) (hi : i < P.length) (hb : badM k P[i] = false) :
    ∃ vs1 h1, qround Try.prog tEm 100 4 [(72, .bool true), (104, .bool false)] noT ERL mEr (stEr B Z P i).1 (stEr B Z P i).2 = some (.norm, vs1, h1) ∧ Gc 7 vs1 h1 (stEr B Z P (i + 1)).1 (stEr B Z P (i + 1)).2 := by
  subst hB
  have hm := ho P[i] (List.getElem_mem hi)
  have e1 : stEr (boxE k pr w x po P.length) Z P (i + 1) = (vEr 7 (enZ Z P (i + 1)).length ((i + 1 : Nat) : Int), hEr (itP P) (boxE k pr w x po P.length) (enZ Z P (i + 1))) := if_neg (by omega)
  have e2 : enZ Z P (i + 1) = enZ Z P i ++ (plcD P[i].1 ++ [u8i P[i].2]) := by unfold enZ; rw [memB_snoc P i hi, List.append_assoc]
  rw [e1, e2]
  by_cases h0 : i = 0
  · subst h0
    have e3 : enZ Z P 0 = Z := by simp [enZ, memB]
    have e4 : stEr (boxE k pr w x po P.length) Z P 0 = (vEr 6 Z.length 0, hEr0 (itP P) (boxE k pr w x po P.length) Z) := rfl
    rw [e3, e4]
    exact stepEra (i := 0) (by omega) hl hi hm hb
  · have e4 : stEr (boxE k pr w x po P.length) Z P i = (vEr 7 (enZ Z P i).length i, hEr (itP P) (boxE k pr w x po P.length) (enZ Z P i)) := if_neg h0
    rw [e4]
    have h1 := memB_le (okP_take ho i)
    have h2 : (P.take i).length ≤ P.length := List.length_take_le' _ _
    exact stepErb (by unfold enZ; rw [List.length_append]; omega) hl hi hm hb
theorem loopEr {B : ABlk} {Z : List UInt8} {P : PL} {k pr : Int} {w : Bool} {x : Nat → Int} {po : Int} (hB : B = boxE k pr w x po P.length) (hZ : Z.length ≤ 1000000) (hl : P.length ≤ 1000000) (ho : okP P) (hb : P.any (badM k) = false) : ∃ t, GReach (roundG Try.prog (deepT Try.prog tEm 100 4) (lsT noT) ERL mEr) 7 t (vEr 6 Z.length 0) (hEr0 (itP P) B Z) (.exit 0) (stEr B Z P P.length).1 (stEr B Z P P.length).2 := by
  refine loop_T (stEr B Z P) (N := P.length) (by simp) (fun i hi => ⟨_, stepEr hB hZ hl ho hi ?_⟩) ?_
  · rw [List.any_eq_false] at hb
    simpa using hb P[i] (List.getElem_mem hi)
  subst hB
  by_cases h0 : P.length = 0
  · have e4 : stEr (boxE k pr w x po P.length) Z P P.length = (vEr 6 Z.length 0, hEr0 (itP P) (boxE k pr w x po P.length) Z) := if_pos h0
    rw [e4]
    exact ⟨_, _, _, (nfErsa ..).trans (if_pos (by rw [h0]; rfl)), Gc.refl⟩
  · have e4 : stEr (boxE k pr w x po P.length) Z P P.length = (vEr 7 (enZ Z P P.length).length P.length, hEr (itP P) (boxE k pr w x po P.length) (enZ Z P P.length)) := if_neg h0
    rw [e4]
    exact ⟨_, _, _, (nfErsb ..).trans (if_pos (by simp)), Gc.refl⟩
theorem loopErB {B : ABlk} {Z : List UInt8} {P : PL} {k pr : Int} {w : Bool} {x : Nat → Int} {po : Int} (hB : B = boxE k pr w x po P.length) (hZ : Z.length ≤ 1000000) (hl : P.length ≤ 1000000) (ho : okP P) (hb : P.any (badM k) = true) : ∃ t, GReach (roundG Try.prog (deepT Try.prog tEm 100 4) (lsT noT) ERL mEr) 7 t (vEr 6 Z.length 0) (hEr0 (itP P) B Z) .ret (stEr B Z P (ixM k P)).1 (stEr B Z P (ixM k P)).2 := by
  have hk : ixM k P < P.length := by
    rw [List.any_eq_true] at hb
    obtain ⟨m, h1, h2⟩ := hb
    exact List.findIdx_lt_length_of_exists ⟨m, h1, h2⟩
  refine loop_T (stEr B Z P) (N := ixM k P) (by simp) (fun i hi => ⟨_, stepEr hB hZ hl ho (by omega) ?_⟩) ?_
  · have := List.not_of_lt_findIdx (p := badM k) (xs := P) hi; simpa using this
  subst hB
  have he : badM k P[ixM k P] = true := List.findIdx_getElem (p := badM k) (xs := P) (w := hk)
  by_cases h0 : ixM k P = 0
  · have e4 : stEr (boxE k pr w x po P.length) Z P (ixM k P) = (vEr 6 Z.length (ixM k P), hEr0 (itP P) (boxE k pr w x po P.length) Z) := by rw [h0]; rfl
    rw [e4]
    exact ⟨_, _, _, badEra hl hk he, okEra⟩
  · have e4 : stEr (boxE k pr w x po P.length) Z P (ixM k P) = (vEr 7 (enZ Z P (ixM k P)).length (ixM k P), hEr (itP P) (boxE k pr w x po P.length) (enZ Z P (ixM k P))) := if_neg h0
    rw [e4]
    exact ⟨_, _, _, badErb hl hk he, okErb⟩

def encRZ (k pr : Int) (d : DipC) (P : PL) : List UInt8 := if mayM k d P then encL k pr d P else if k = 2 ∧ vD d = true ∧ P.length ≤ 255 then headB k pr d else []
theorem preEr {b2 b3 b4 b5 : ABlk} {C cs : List AV} {Z : List UInt8} {k pr : Int} {w : Bool} {x : Nat → Int} {po : Int} {n : Nat} (hc : cs = bys Z) (hf : AV.frees C = true) : Pre 7 (vEr 6 Z.length 0) [.cells C 19 .far none, .cells (cmA k pr w x po (.sl (some (0, 0)) n 0 false)) 21 .own none, b2, b3, b4, b5, .cells cs 1 .own (some 4)] (vEr 6 Z.length 0) (hEr0 C (boxE k pr w x po n) Z) := by
  subst hc
  refine .gc _ _ _ [.cells C 19 .far none, boxE k pr w x po n, .dead, .dead, .dead, .dead, .cells (bys Z) 1 .own (some 4)] _ _ ?_ (.orphan 6 4 1 .own (bys Z) _ _ (hEr0 C (boxE k pr w x po n) Z) _ _ rfl (fun b hb => by cases hb; rfl) rfl (.done _ _))
  exact Gc.by [0, 1, 2, 3, 4, 5, 6] rfl (by decide) (.cons _ _ _ _ (.ptr _ _ _ rfl) (.cons _ _ _ _ (.free _ rfl) (.cons _ _ _ _ (.free _ rfl) (.cons _ _ _ _ (.sl _ _ _ _ _ _ rfl) (.free _ rfl))))) (.cons _ _ _ _ _ rfl (.row hf (by simp)) (.cons _ _ _ _ _ rfl (boxE_keep (by rfl)) (.cons _ _ _ _ _ rfl (.dead _) (.cons _ _ _ _ _ rfl (.dead _) (.cons _ _ _ _ _ rfl (.dead _) (.cons _ _ _ _ _ rfl (.dead _) (.cons _ _ _ _ _ rfl (.cells _ _ _ _ _ _ (.free _ (by simp)) (fun p j h1 h2 => by cases h1; exact h2)) .nil)))))))
theorem hdr_er (k : Int) {pr : Int} (hr : ((u8i pr).toNat : Int) = pr) (Z : List UInt8) : [AV.int .u8 (IntKind.u8.wrap (intV (some (.int .i64 k)))), AV.int .u8 (intV (some (.int .u8 pr)))] ++ List.take (Z.length * 1) (bys Z) = bys ([u8i k, u8i pr] ++ Z) := by
  rw [List.take_of_length_le (by simp)]
  exact hdr_bys k hr Z
theorem hdr_er1 (k : Int) {pr : Int} (hr : ((u8i pr).toNat : Int) = pr) (Z : List UInt8) (n : Nat) : List.take ((2 + Z.length) * 1) ([AV.int .u8 (IntKind.u8.wrap (intV (some (.int .i64 k)))), AV.int .u8 (intV (some (.int .u8 pr)))] ++ List.take (Z.length * 1) (bys Z)) ++ [AV.int .u8 (IntKind.u8.wrap n)] = bys ([u8i k, u8i pr] ++ Z ++ [u8i n]) := by
  rw [hdr_er k hr, List.take_of_length_le (by simp; omega), wrapU8]
  simp [bys]
theorem runEr {P : PL} {k pr : Int} {w : Bool} {x : Nat → Int} {po : Int} (hl : P.length ≤ 1000000) (hd : okD (dF w x po)) (ho : okP P) (hr : 0 ≤ pr ∧ pr < 256) (m : Nat) :
    ∃ v1 h1, Runs Try.prog 11 [.agg (cmA k pr w x po (.sl (some (0, 0)) P.length 0 false))] [.cells (itP P) 19 .far none] v1 h1 ∧ ∃ ks, Den h1 1 m ks v1 (.tup [slB m (encRZ k pr (dF w x po) P), .bool (decide (mayM k (dF w x po) P))]) [ownB (encRZ k pr (dF w x po) P)] ∧ KsOk ks := by
  have lp : loopsOf (bodyOf Try.prog 11) = [ERL] := by kernel_rfl
  have hlen := plcD_le hd
  have hw : adrWf (adF w x) = true := hd.1
  have hp : 0 ≤ po ∧ po < 65536 := hd.2
  have hpr : ((u8i pr).toNat : Int) = pr := by rw [u8i_toNat]; omega
  have va : IsAdr (adF w x) := isAdr_F w x
  have nil : (encRZ k pr (dF w x po) P) = [] → ¬ mayM k (dF w x po) P → ∀ {v1 : AV} {h' : AHeap}, v1 = .tup [.sl none 0 0 true, .bool false] → ∃ ks, Den h' 1 m ks v1 (.tup [slB m (encRZ k pr (dF w x po) P), .bool (decide (mayM k (dF w x po) P))]) [ownB (encRZ k pr (dF w x po) P)] ∧ KsOk ks := by
    rintro h1 h2 v1 h' rfl
    rw [h1, decide_eq_false h2]
    exact ⟨_, denTupNil rfl, ksOk1 _⟩
  by_cases hX : 1 ≤ k ∧ k ≤ 5 ∧ vD (dF w x po) = true ∧ P.length ≤ 255
  case neg =>
    have hm : ¬ mayM k (dF w x po) P := fun h => hX ⟨h.1.1, h.1.2.1, h.1.2.2.2.2.2, h.1.2.2.1⟩
    have hz : encRZ k pr (dF w x po) P = [] := by unfold encRZ; rw [if_neg hm, if_neg (fun h => hX ⟨by omega, by omega, h.2.1, h.2.2⟩)]
    obtain ⟨h', hr⟩ := Runs.valT0 (v := .tup [.sl none 0 0 true, .bool false]) (tErOk []) (F := 100) (n := 4) (pr := [(27, .bool true)]) ((nfErX (itP P) P.length k pr w x po _).trans (by
      by_cases a1 : k < 1
      · exact if_pos (decide_eq_true a1)
      refine (if_neg (dn a1)).trans ?_
      by_cases a2 : k > 5
      · exact if_pos (decide_eq_true a2)
      refine (if_neg (dn a2)).trans ?_
      refine (if_pos (cdec_true.2 va)).trans ?_
      by_cases a3 : adrValid (adF w x) = true
      · refine (if_neg (by rw [opq_eq, a3]; decide)).trans ?_
        refine if_pos ?_
        have : ¬ P.length ≤ 255 := fun h => hX ⟨by omega, by omega, a3, h⟩
        simp; omega
      · exact if_pos (by rw [opq_eq]; simpa using a3)))
    obtain ⟨ks, h⟩ := nil hz hm rfl
    exact ⟨_, _, hr, ks, h⟩
  obtain ⟨x1, x2, x3, x4⟩ := hX
  have x3' : adrValid (adF w x) = true := x3
  have hZe : headB k pr (dF w x po) = [u8i k, u8i pr] ++ plcD (dF w x po) := rfl
  have hRb : ∀ {h h' : AHeap} {Z : List UInt8}, Z = plcD (dF w x po) → h.length = 2 → h' = [ownB Z] → RbR [.agg (adF w x ++ [.int .u16 po])] h (slB 2 Z) h' := by
    rintro h h' Z rfl h1 rfl
    exact .mk (adF w x) po _ _ _ hw hp rfl h1
  have cm : 1 ≤ k ∧ k ≤ 5 := ⟨x1, x2⟩
  by_cases h2 : k = 2
  · have hm : mayM k (dF w x po) P ↔ P.length = 0 := by
      constructor
      · exact fun h => h.1.2.2.2.1 h2
      · intro h
        have hP := List.eq_nil_of_length_eq_zero h
        exact ⟨⟨x1, x2, x4, fun _ => h, fun g => by omega, x3⟩, by rw [hP]; rfl⟩
    have hz : encRZ k pr (dF w x po) P = headB k pr (dF w x po) := by
      unfold encRZ
      split
      · unfold encL; rw [if_pos h2, List.append_nil]
      · exact if_pos ⟨h2, x3, x4⟩
    have hd' : decide (mayM k (dF w x po) P) = ((P.length : Int) == 0) := by
      by_cases h : P.length = 0
      · rw [decide_eq_true (hm.2 h), h]; rfl
      · rw [decide_eq_false (fun g => h (hm.1 g))]; exact (beq_eq_false_iff_ne.2 (by omega)).symm
    rw [hz, hd', hZe]
    generalize hZ : plcD (dF w x po) = Z at *
    refine ⟨.tup [.sl (some (4, 0)) (2 + Z.length) 0 false, .bool ((P.length : Int) == 0)], hErD2 (itP P) P.length k pr w x po Z, Runs.ofT0 (tErOk Z) (F := 100) (n := 4) (pr := [(27, .bool false), (46, .bool true)]) ((nfErD (itP P) P.length k pr w x po Z _).trans ?_), [some 4], ?_, ksOk1 _⟩
    · refine (if_neg (dn (p := k < 1) (by omega))).trans ?_
      refine (if_neg (dn (p := k > 5) (by omega))).trans ?_
      refine (if_pos (cdec_true.2 va)).trans ?_
      refine (if_neg (by rw [opq_eq, x3']; decide)).trans ?_
      refine (if_pos (by simp; omega)).trans ?_
      refine (if_pos (cdec_true.2 (hRb rfl rfl rfl))).trans ?_
      refine (if_pos (by simp)).trans ?_
      refine (if_pos ⟨by omega, rfl, by omega⟩).trans ?_
      refine (if_pos ⟨rfl, rfl, by simp, rfl, by simp⟩).trans ?_
      refine (if_pos (AV.beq_self _)).trans ?_
      refine (if_pos (AV.beq_self _)).trans ?_
      exact if_pos (beq_of h2)
    · have e : slB m ([u8i k, u8i pr] ++ Z) = .sl (some (m, 0)) (2 + Z.length) 0 false := by unfold slB; rw [List.length_append]; rfl
      rw [e]
      exact denTupRow (z := 1) (by omega) (congrArg (fun c => some (ABlk.cells c 1 .own (some 3))) (hdr_er k hpr Z)) (by omega) (by simp; omega) (by simp) rfl
  by_cases hY : k ≠ 1 ∧ P.length ≠ 1
  · have hm : ¬ mayM k (dF w x po) P := fun h => hY.2 (h.1.2.2.2.2.1 (by omega))
    have hz : encRZ k pr (dF w x po) P = [] := by unfold encRZ; rw [if_neg hm, if_neg (fun h => h2 h.1)]
    obtain ⟨h', hr⟩ := Runs.valT0 (v := .tup [.sl none 0 0 true, .bool false]) (tErOk (plcD (dF w x po))) (F := 100) (n := 4) (pr := [(27, .bool false), (46, .bool false), (60, .bool true)]) ((nfErY (itP P) P.length k pr w x po (plcD (dF w x po)) _).trans (by
      refine (if_neg (dn (p := k < 1) (by omega))).trans ?_
      refine (if_neg (dn (p := k > 5) (by omega))).trans ?_
      refine (if_pos (cdec_true.2 va)).trans ?_
      refine (if_neg (by rw [opq_eq, x3']; decide)).trans ?_
      refine (if_pos (by simp; omega)).trans ?_
      refine (if_pos (cdec_true.2 (hRb rfl rfl rfl))).trans ?_
      refine (if_pos (by simp)).trans ?_
      refine (if_pos ⟨by omega, rfl, by omega⟩).trans ?_
      refine (if_pos ⟨rfl, rfl, by simp, rfl, by simp⟩).trans ?_
      refine (if_pos (AV.beq_self _)).trans ?_
      refine (if_pos (AV.beq_self _)).trans ?_
      refine (if_pos (by simpa using h2)).trans ?_
      refine (if_pos (by simpa using hY.1)).trans ?_
      exact if_pos (by simp; omega)))
    obtain ⟨ks, h⟩ := nil hz hm rfl
    exact ⟨_, _, hr, ks, h⟩
  have pm : preM k (dF w x po) P.length := ⟨x1, x2, x4, fun h => absurd h h2, fun h => by omega, x3⟩

  by_cases hb : P.any (badM k) = true
  · have hm : ¬ mayM k (dF w x po) P := fun h => by have := h.2; rw [hb] at this; cases this
    have hz : encRZ k pr (dF w x po) P = [] := by unfold encRZ; rw [if_neg hm, if_neg (fun h => h2 h.1)]
    generalize hZ : plcD (dF w x po) = Z at *
    have key : True → ∃ vs2 h2, Pre 7 (vEr 6 (2 + Z.length + 1) 0) (hErB2 (itP P) P.length k pr w x po Z True [] [] 0 0 0 []) vs2 h2 ∧ ∃ t, GReach (roundG Try.prog (deepT Try.prog tEm 100 4) (lsT noT) ERL mEr) 7 t vs2 h2 .ret (stEr (boxE k pr w x po P.length) ([u8i k, u8i pr] ++ Z ++ [u8i P.length]) P (ixM k P)).1 (stEr (boxE k pr w x po P.length) ([u8i k, u8i pr] ++ Z ++ [u8i P.length]) P (ixM k P)).2 := by
      intro _
      have e : 2 + Z.length + 1 = ([u8i k, u8i pr] ++ Z ++ [u8i P.length]).length := by simp; omega
      rw [e]
      exact ⟨_, _, preEr (Z := [u8i k, u8i pr] ++ Z ++ [u8i P.length]) (hdr_er1 k hpr Z P.length) (itP_frees P), loopErB (B := boxE k pr w x po P.length) (Z := [u8i k, u8i pr] ++ Z ++ [u8i P.length]) (by rfl) (by simp; omega) hl ho hb⟩

    by_cases h0 : (ixM k P) = 0
    · rw [show stEr (boxE k pr w x po P.length) ([u8i k, u8i pr] ++ Z ++ [u8i P.length]) P (ixM k P) = (vEr 6 (enZ ([u8i k, u8i pr] ++ Z ++ [u8i P.length]) P (ixM k P)).length (ixM k P), hEr0 (itP P) (boxE k pr w x po P.length) (enZ ([u8i k, u8i pr] ++ Z ++ [u8i P.length]) P (ixM k P))) by unfold stEr enZ; rw [if_pos h0, h0]; simp [memB]] at key
      obtain ⟨h', hr⟩ := Runs.valT (v := .tup [.sl none 0 0 true, .bool false]) (tErOk Z) (F := 100) (n := 4) (pr := [(27, .bool false), (46, .bool false), (60, .bool false)]) (only (k := 10) lp (fixP_T tEmOk (F := 100) (n := 4) (LS := noT) (noLoops (by kernel_rfl)) key)) ((nfErB (itP P) P.length k pr w x po Z _ _ _ 6 _ _ _ _).trans (by
        refine (if_neg (dn (p := k < 1) (by omega))).trans ?_
        refine (if_neg (dn (p := k > 5) (by omega))).trans ?_
        refine (if_pos (cdec_true.2 va)).trans ?_
        refine (if_neg (by rw [opq_eq, x3']; decide)).trans ?_
        refine (if_pos (by simp; omega)).trans ?_
        refine (if_pos (cdec_true.2 (hRb rfl rfl rfl))).trans ?_
        refine (if_pos (by simp)).trans ?_
        refine (if_pos ⟨by omega, rfl, by omega⟩).trans ?_
        refine (if_pos ⟨rfl, rfl, by simp, rfl, by simp⟩).trans ?_
        refine (if_pos (AV.beq_self _)).trans ?_
        refine (if_pos (AV.beq_self _)).trans ?_
        refine (if_pos (by simpa using h2)).trans ?_
        by_cases k1 : k = 1
        · refine (if_neg (by simpa using k1)).trans ?_
          refine (if_pos ⟨by omega, rfl, by omega⟩).trans ?_
          refine (if_pos (by simp; omega)).trans ?_
          refine (if_pos ⟨rfl, by simp; omega, by simp, rfl, rfl⟩).trans ?_
          exact if_pos (cdec_true.2 ⟨trivial, rfl, rfl⟩)
        · refine (if_pos (by simpa using k1)).trans ?_
          refine (if_pos (by simp; omega)).trans ?_
          refine (if_pos ⟨by omega, rfl, by omega⟩).trans ?_
          refine (if_pos (by simp; omega)).trans ?_
          refine (if_pos ⟨rfl, by simp; omega, by simp, rfl, rfl⟩).trans ?_
          exact if_pos (cdec_true.2 ⟨trivial, rfl, rfl⟩)))
      obtain ⟨ks, h⟩ := nil hz hm rfl
      exact ⟨_, _, hr, ks, h⟩
    · rw [show stEr (boxE k pr w x po P.length) ([u8i k, u8i pr] ++ Z ++ [u8i P.length]) P (ixM k P) = (vEr 7 (enZ ([u8i k, u8i pr] ++ Z ++ [u8i P.length]) P (ixM k P)).length (ixM k P), hEr (itP P) (boxE k pr w x po P.length) (enZ ([u8i k, u8i pr] ++ Z ++ [u8i P.length]) P (ixM k P))) from if_neg h0] at key
      obtain ⟨h', hr⟩ := Runs.valT (v := .tup [.sl none 0 0 true, .bool false]) (tErOk Z) (F := 100) (n := 4) (pr := [(27, .bool false), (46, .bool false), (60, .bool false)]) (only (k := 10) lp (fixP_T tEmOk (F := 100) (n := 4) (LS := noT) (noLoops (by kernel_rfl)) key)) ((nfErB (itP P) P.length k pr w x po Z _ _ _ 7 _ _ _ _).trans (by
        refine (if_neg (dn (p := k < 1) (by omega))).trans ?_
        refine (if_neg (dn (p := k > 5) (by omega))).trans ?_
        refine (if_pos (cdec_true.2 va)).trans ?_
        refine (if_neg (by rw [opq_eq, x3']; decide)).trans ?_
        refine (if_pos (by simp; omega)).trans ?_
        refine (if_pos (cdec_true.2 (hRb rfl rfl rfl))).trans ?_
        refine (if_pos (by simp)).trans ?_
        refine (if_pos ⟨by omega, rfl, by omega⟩).trans ?_
        refine (if_pos ⟨rfl, rfl, by simp, rfl, by simp⟩).trans ?_
        refine (if_pos (AV.beq_self _)).trans ?_
        refine (if_pos (AV.beq_self _)).trans ?_
        refine (if_pos (by simpa using h2)).trans ?_
        by_cases k1 : k = 1
        · refine (if_neg (by simpa using k1)).trans ?_
          refine (if_pos ⟨by omega, rfl, by omega⟩).trans ?_
          refine (if_pos (by simp; omega)).trans ?_
          refine (if_pos ⟨rfl, by simp; omega, by simp, rfl, rfl⟩).trans ?_
          exact if_pos (cdec_true.2 ⟨trivial, rfl, rfl⟩)
        · refine (if_pos (by simpa using k1)).trans ?_
          refine (if_pos (by simp; omega)).trans ?_
          refine (if_pos ⟨by omega, rfl, by omega⟩).trans ?_
          refine (if_pos (by simp; omega)).trans ?_
          refine (if_pos ⟨rfl, by simp; omega, by simp, rfl, rfl⟩).trans ?_
          exact if_pos (cdec_true.2 ⟨trivial, rfl, rfl⟩)))
      obtain ⟨ks, h⟩ := nil hz hm rfl
      exact ⟨_, _, hr, ks, h⟩
  · have hb : P.any (badM k) = false := by simpa using hb
    have hm : mayM k (dF w x po) P := ⟨pm, hb⟩
    have hz : encRZ k pr (dF w x po) P = enZ ([u8i k, u8i pr] ++ plcD (dF w x po) ++ [u8i P.length]) P P.length := by
      unfold encRZ enZ encL
      rw [if_pos hm, if_neg h2, List.take_length]
      exact (List.append_assoc _ [u8i P.length] (memB P)).symm
    rw [hz, decide_eq_true hm]
    generalize hZ : plcD (dF w x po) = Z at *
    have key : True → ∃ vs2 h2, Pre 7 (vEr 6 (2 + Z.length + 1) 0) (hErL2 (itP P) P.length k pr w x po Z True [] [] 0 0 []) vs2 h2 ∧ ∃ t, GReach (roundG Try.prog (deepT Try.prog tEm 100 4) (lsT noT) ERL mEr) 7 t vs2 h2 (.exit 0) (stEr (boxE k pr w x po P.length) ([u8i k, u8i pr] ++ Z ++ [u8i P.length]) P P.length).1 (stEr (boxE k pr w x po P.length) ([u8i k, u8i pr] ++ Z ++ [u8i P.length]) P P.length).2 := by
      intro _
      have e : 2 + Z.length + 1 = ([u8i k, u8i pr] ++ Z ++ [u8i P.length]).length := by simp; omega
      rw [e]
      exact ⟨_, _, preEr (Z := [u8i k, u8i pr] ++ Z ++ [u8i P.length]) (hdr_er1 k hpr Z P.length) (itP_frees P), loopEr (B := boxE k pr w x po P.length) (Z := [u8i k, u8i pr] ++ Z ++ [u8i P.length]) (by rfl) (by simp; omega) hl ho hb⟩

    by_cases h0 : P.length = 0
    · rw [show stEr (boxE k pr w x po P.length) ([u8i k, u8i pr] ++ Z ++ [u8i P.length]) P P.length = (vEr 6 (enZ ([u8i k, u8i pr] ++ Z ++ [u8i P.length]) P P.length).length P.length, hEr0 (itP P) (boxE k pr w x po P.length) (enZ ([u8i k, u8i pr] ++ Z ++ [u8i P.length]) P P.length)) by unfold stEr enZ; rw [if_pos h0, h0]; simp [memB]] at key
      generalize enZ ([u8i k, u8i pr] ++ Z ++ [u8i P.length]) P P.length = Y at *
      refine ⟨.tup [.sl (some (6, 0)) Y.length 0 false, .bool true], hEr0 (itP P) (boxE k pr w x po P.length) Y, Runs.ofT (tErOk Z) (F := 100) (n := 4) (pr := [(27, .bool false), (46, .bool false), (60, .bool false)]) (only (k := 10) lp (fixP_T tEmOk (F := 100) (n := 4) (LS := noT) (noLoops (by kernel_rfl)) key)) ((nfErL (itP P) P.length k pr w x po Z _ _ _ 6 Y.length _ _).trans ?_), [some 6], denTupRow (z := 1) (by omega) rfl (by omega) (by simp) (by simp) rfl, ksOk1 _⟩
      refine (if_neg (dn (p := k < 1) (by omega))).trans ?_
      refine (if_neg (dn (p := k > 5) (by omega))).trans ?_
      refine (if_pos (cdec_true.2 va)).trans ?_
      refine (if_neg (by rw [opq_eq, x3']; decide)).trans ?_
      refine (if_pos (by simp; omega)).trans ?_
      refine (if_pos (cdec_true.2 (hRb rfl rfl rfl))).trans ?_
      refine (if_pos (by simp)).trans ?_
      refine (if_pos ⟨by omega, rfl, by omega⟩).trans ?_
      refine (if_pos ⟨rfl, rfl, by simp, rfl, by simp⟩).trans ?_
      refine (if_pos (AV.beq_self _)).trans ?_
      refine (if_pos (AV.beq_self _)).trans ?_
      refine (if_pos (by simpa using h2)).trans ?_
      by_cases k1 : k = 1
      · refine (if_neg (by simpa using k1)).trans ?_
        refine (if_pos ⟨by omega, rfl, by omega⟩).trans ?_
        refine (if_pos (by simp; omega)).trans ?_
        refine (if_pos ⟨rfl, by simp; omega, by simp, rfl, rfl⟩).trans ?_
        exact if_pos (cdec_true.2 ⟨trivial, rfl, rfl⟩)
      · refine (if_pos (by simpa using k1)).trans ?_
        refine (if_pos (by simp; omega)).trans ?_
        refine (if_pos ⟨by omega, rfl, by omega⟩).trans ?_
        refine (if_pos (by simp; omega)).trans ?_
        refine (if_pos ⟨rfl, by simp; omega, by simp, rfl, rfl⟩).trans ?_
        exact if_pos (cdec_true.2 ⟨trivial, rfl, rfl⟩)
    · rw [show stEr (boxE k pr w x po P.length) ([u8i k, u8i pr] ++ Z ++ [u8i P.length]) P P.length = (vEr 7 (enZ ([u8i k, u8i pr] ++ Z ++ [u8i P.length]) P P.length).length P.length, hEr (itP P) (boxE k pr w x po P.length) (enZ ([u8i k, u8i pr] ++ Z ++ [u8i P.length]) P P.length)) from if_neg h0] at key
      generalize enZ ([u8i k, u8i pr] ++ Z ++ [u8i P.length]) P P.length = Y at *
      refine ⟨.tup [.sl (some (7, 0)) Y.length 0 false, .bool true], hEr (itP P) (boxE k pr w x po P.length) Y, Runs.ofT (tErOk Z) (F := 100) (n := 4) (pr := [(27, .bool false), (46, .bool false), (60, .bool false)]) (only (k := 10) lp (fixP_T tEmOk (F := 100) (n := 4) (LS := noT) (noLoops (by kernel_rfl)) key)) ((nfErL (itP P) P.length k pr w x po Z _ _ _ 7 Y.length _ _).trans ?_), [some 7], denTupRow (z := 1) (by omega) rfl (by omega) (by simp) (by simp) rfl, ksOk1 _⟩
      refine (if_neg (dn (p := k < 1) (by omega))).trans ?_
      refine (if_neg (dn (p := k > 5) (by omega))).trans ?_
      refine (if_pos (cdec_true.2 va)).trans ?_
      refine (if_neg (by rw [opq_eq, x3']; decide)).trans ?_
      refine (if_pos (by simp; omega)).trans ?_
      refine (if_pos (cdec_true.2 (hRb rfl rfl rfl))).trans ?_
      refine (if_pos (by simp)).trans ?_
      refine (if_pos ⟨by omega, rfl, by omega⟩).trans ?_
      refine (if_pos ⟨rfl, rfl, by simp, rfl, by simp⟩).trans ?_
      refine (if_pos (AV.beq_self _)).trans ?_
      refine (if_pos (AV.beq_self _)).trans ?_
      refine (if_pos (by simpa using h2)).trans ?_
      by_cases k1 : k = 1
      · refine (if_neg (by simpa using k1)).trans ?_
        refine (if_pos ⟨by omega, rfl, by omega⟩).trans ?_
        refine (if_pos (by simp; omega)).trans ?_
        refine (if_pos ⟨rfl, by simp; omega, by simp, rfl, rfl⟩).trans ?_
        exact if_pos (cdec_true.2 ⟨trivial, rfl, rfl⟩)
      · refine (if_pos (by simpa using k1)).trans ?_
        refine (if_pos (by simp; omega)).trans ?_
        refine (if_pos ⟨by omega, rfl, by omega⟩).trans ?_
        refine (if_pos (by simp; omega)).trans ?_
        refine (if_pos ⟨rfl, by simp; omega, by simp, rfl, rfl⟩).trans ?_
        exact if_pos (cdec_true.2 ⟨trivial, rfl, rfl⟩)
inductive ErR : List AV → AHeap → AV → AHeap → Prop
  | mk (P : PL) (k pr : Int) (d : DipC) (h : AHeap) (a : AV) (g : rowP h a P) (hl : P.length ≤ 1000000) (hd : okD d) (ho : okP P) (hr : 0 ≤ pr ∧ pr < 256) (Z : List UInt8) (hZ : encRZ k pr d P = Z) (r : Bool) (he : decide (mayM k d P) = r) (j : Nat) (hj : h.length = j) : ErR [.agg (cmF k pr d a)] h (.tup [slB j Z, .bool r]) [ownB Z]
theorem sEr (L : List (Nat × AV × AHeap)) : SoundE Try.prog 11 (entF (eRel ErR L)) := by
  refine relR_sound (fun args h v new hR => ?_) L
  cases hR with
  | mk P k pr d _ a g hl hd ho hr Z hZ r he j hj =>
  subst hZ he hj
  obtain ⟨w, x, po, rfl⟩ := dF_of d
  obtain ⟨v1, h1, h2, ks, h3, h4⟩ := runEr hl hd ho hr h.length
  exact ⟨_, _, .cons _ _ _ _ _ [.cells (itP P) 19 .far none] [] (canon_cmd g) (.nil _), v1, h1, h2, ks, h3, h4⟩


end Go.Proofs.Ytjlepcfeeicdfaa.L
