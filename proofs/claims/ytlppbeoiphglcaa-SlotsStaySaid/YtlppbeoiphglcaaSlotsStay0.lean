/- SlotsStay's run. -/
import Derived.Test.YtlppbeoiphglcaaSlotsStayN
import Derived.Test.YtlppbeoiphglcaaOutL
set_option autoImplicit false
set_option maxRecDepth 100000
set_option linter.unusedVariables false
set_option linter.unusedSimpArgs false
namespace Go.Proofs.Ytlppbeoiphglcaa.L
open Go Go.Abs

variable {n : Int} {o : PL} {X Y : List DipC}
noncomputable def groL (o : PL) (n : Int) (X : List DipC) : List Int := (List.range o.length).map fun k => max ((shP o n).getD k 0 - cntD X (o.getD k (zD, 0)).1) 0
@[simp] theorem groL_len (o : PL) (n : Int) (X : List DipC) : (groL o n X).length = o.length := by simp [groL]
structure STx (o : PL) (n : Int) (X Y : List DipC) : Prop where
  h1 : 1 ≤ n
  h2 : n ≤ 64
  hc : chkP o = 0
  hp : 0 < o.length
  xl : (X.length : Int) = n
  yl : (Y.length : Int) = n
  cn : ∀ k (hk : k < o.length), (cntD Y o[k].1 : Int) = (shP o n).getD k 0
  st : ∀ k (hk : k < o.length), (cntD X o[k].1 : Int) ≤ (shP o n).getD k 0 → ∀ x, x < n.toNat → X[x]? = some o[k].1 → Y[x]? = some o[k].1
  mv : (movP X Y : Int) = sumL (groL o n X)
theorem STx.of {P : PL} {n : Int} (h1 : 1 ≤ n) (h2 : n ≤ 64) (hc : chkP P = 0) (hp : 0 < P.length) (hco : chkP o = 0) (hpo : 0 < o.length) (hX : fillP P [] n = X) (hY : fillP o X n = Y) : STx o n X Y ∧ fillE P [] n = 0 ∧ fillE o X n = 0 := by
  obtain ⟨e0, -, -, -, -, -⟩ := fill_ok (P := P) (D := []) (n := n) h1 h2 hc hp (.inl rfl)
  have hXl := fill_len (P := P) (D := []) (n := n) h1 h2 hc hp (.inl rfl)
  rw [hX] at hXl
  have hXn : (X.length : Int) = n := by omega
  obtain ⟨f0, -, -, -, -, -⟩ := fill_ok (P := o) (D := X) (n := n) h1 h2 hco hpo (.inr hXn)
  have hYl := fill_len (P := o) (D := X) (n := n) h1 h2 hco hpo (.inr hXn)
  have hYc := fun k hk => fill_cnt (P := o) (D := X) (n := n) h1 h2 hco hpo (.inr hXn) (k := k) hk
  have hYm := fill_moved (P := o) (D := X) (n := n) h1 h2 hco hpo hXn
  have hYs := fun k hk hle x hx he => fill_stay (P := o) (D := X) (n := n) h1 h2 hco hpo hXn (k := k) hk hle (x := x) hx he
  rw [hY] at hYl hYc hYm hYs
  exact ⟨⟨h1, h2, hco, hpo, hXn, by omega, hYc, hYs, hYm⟩, e0, f0⟩
theorem groL_bd (H : STx o n X Y) : ∀ x ∈ groL o n X, 0 ≤ x ∧ x ≤ 64 := by
  intro x hx
  obtain ⟨k, hk, rfl⟩ := List.mem_map.1 hx
  have hk := List.mem_range.1 hk
  have hl := shP_len (P := o) (n := n) (by have := H.h1; omega) H.h2 H.hc (by have := H.hp; rintro rfl; simp at this)
  have h0 := shP_nonneg (P := o) (n := n) (by have := H.h1; omega) H.h2 H.hc H.hp
  have hs := shP_sum (P := o) (n := n) (by have := H.h1; omega) H.h2 H.hc H.hp
  have := mem_le_sum h0 _ (List.getElem_mem (show k < (shP o n).length by omega))
  rw [getD_at (by omega)]
  have := H.h2
  omega
theorem groL_get {k : Nat} (hk : k < o.length) (h : k < (groL o n X).length) : (groL o n X)[k] = max ((shP o n).getD k 0 - cntD X o[k].1) 0 := by
  simp only [groL, List.getElem_map, List.getElem_range]
  rw [show o.getD k (zD, 0) = o[k] by rw [List.getD_eq_getElem?_getD, List.getElem?_eq_getElem hk, Option.getD_some]]


section
variable {B0 B1 B2 : ABlk}
theorem stepSTA2 {g u w : Int} {i j : Nat} (hi : i < o.length) (hj : j < X.length) (hyl : Y.length = X.length) (hn : (X.length : Int) = n) (h64 : n ≤ 64) (hge : u ≤ w) (hst : X[j] = o[i].1 → Y[j] = o[i].1) :
    qround Try.prog tSTL 100 4 [(140, .bool true), (164, .bool false)] noT ST2 mST2 (vSTA2 n o.length X.length Y.length g i u w j) (hSTA B0 B1 B2 (itP o) (dipsC X) (dipsC Y)) = some (.norm, vSTA2 n o.length X.length Y.length g i u w ((j + 1 : Nat) : Int), hSTA B0 B1 B2 (itP o) (dipsC X) (dipsC Y)) := by
  have e5 := wrap1 (i := j) (by omega)
  have e6 : 0 + (j : Int).toNat * 18 = j * 18 := by omega
  have e7 : 0 + (i : Int).toNat * 19 + 0 = i * 19 := by omega
  have hlP := itP_length o
  have hlX := dipsC_length X
  have hlY := dipsC_length Y
  refine (nfSTA2a ..).trans ?_
  rw [e6, e7, dipsC_at hj, dipsC_at (l := Y) (by omega), itP_18 hi, e5]
  refine (if_pos (by simp; omega)).trans ?_
  refine (if_pos (by simpa using hge)).trans ?_
  refine (if_pos (by omega)).trans ?_
  refine (if_pos (by omega)).trans ?_
  refine (if_pos (by omega)).trans ?_
  refine (if_pos (by omega)).trans ?_
  generalize X[j] = x at *
  generalize Y[j] = y at *
  generalize o[i].1 = d at *
  by_cases he : x = d
  · have hy := hst he
    subst he hy
    obtain ⟨v, b, q, hb⟩ := y
    obtain ⟨a0, a1, a2, a3, a4, a5, a6, a7, a8, a9, a10, a11, a12, a13, a14, a15, rfl⟩ := sixteen hb
    iterate 40 (refine (if_pos (by first | rfl | decide | (simp [DipC.cells]; done))).trans ?_)
    refine (if_pos (by simp [DipC.cells, boolV, intV])).trans ?_
    refine (if_pos (by omega)).trans ?_
    refine (if_pos (by omega)).trans ?_
    refine (if_pos (by omega)).trans ?_
    refine (if_pos (by omega)).trans ?_
    iterate 40 (refine (if_pos (by first | rfl | decide | (simp [DipC.cells]; done))).trans ?_)
    refine (if_pos (by simp [DipC.cells, boolV, intV])).trans ?_
    rfl
  · clear hst
    obtain ⟨v, b, q, hb⟩ := x
    obtain ⟨v', b', q', hb'⟩ := d
    obtain ⟨a0, a1, a2, a3, a4, a5, a6, a7, a8, a9, a10, a11, a12, a13, a14, a15, rfl⟩ := sixteen hb
    obtain ⟨c0, c1, c2, c3, c4, c5, c6, c7, c8, c9, c10, c11, c12, c13, c14, c15, rfl⟩ := sixteen hb'
    iterate 40 (refine (if_pos (by first | rfl | decide | (simp [DipC.cells]; done))).trans ?_)
    refine (if_neg fun hc => he ?_).trans ?_
    · simp [DipC.cells, boolV, intV] at hc
      exact DipC.ext' hc.1.1 (by simp [hc]) (by simp [hc])
    · rfl
theorem saysSTA2 (H : STx o n X Y) {g : Int} {i : Nat} (hi : i < o.length) :
    LSays bST2 6 (vSTA2 n o.length X.length Y.length g i (cntD X o[i].1) (cntD Y o[i].1) 0) (hSTA B0 B1 B2 (itP o) (dipsC X) (dipsC Y)) (.exit 2) (vSTA2 n o.length X.length Y.length g i (cntD X o[i].1) (cntD Y o[i].1) (if (cntD Y o[i].1 : Int) ≥ cntD X o[i].1 then n else 0)) (hSTA B0 B1 B2 (itP o) (dipsC X) (dipsC Y)) := by
  have hxl := H.xl
  have hyl := H.yl
  by_cases hge : (cntD Y o[i].1 : Int) ≥ cntD X o[i].1
  · rw [if_pos hge]
    refine says_up (fun j => vSTA2 n o.length X.length Y.length g i (cntD X o[i].1) (cntD Y o[i].1) (j : Nat)) (N := X.length) (by simp) rfl (by rw [hxl]) (fun j hj => ⟨[(140, .bool true), (164, .bool false)], stepSTA2 hi hj (by omega) hxl H.h2 hge fun he => ?_⟩) ⟨[(140, .bool false)], (nfSTA2s ..).trans (if_neg (by simp; omega))⟩
    have := H.st i hi (by rw [← H.cn i hi]; exact hge) j (by omega) (by rw [List.getElem?_eq_getElem hj, he])
    rw [List.getElem?_eq_getElem (by omega)] at this
    injection this
  · rw [if_neg hge]
    have h1 := H.h1
    exact says_up (fun j => vSTA2 n o.length X.length Y.length g i (cntD X o[i].1) (cntD Y o[i].1) (j : Nat)) (N := 0) (by simp) rfl rfl (fun j hj => absurd hj (Nat.not_lt_zero _)) ⟨[(140, .bool false)], (nfSTA2s ..).trans ((if_pos (by simp; omega)).trans (if_pos (by simpa using hge)))⟩
theorem stepSTA1 (H : STx o n X Y) {i : Nat} (hi : i < o.length) :
    qround Try.prog tSTL 100 4 [(110, .bool true)] lsST ST1 mST1 (vSTA1 n o.length X.length Y.length (sumL ((groL o n X).take i)) i) (hSTA B0 B1 B2 (itP o) (dipsC X) (dipsC Y)) = some (.norm, vSTA1 n o.length X.length Y.length (sumL ((groL o n X).take (i + 1))) ((i + 1 : Nat) : Int), hSTA B0 B1 B2 (itP o) (dipsC X) (dipsC Y)) := by
  have hl := chk_len H.hc
  have hxl := H.xl
  have hyl := H.yl
  have h64 := H.h2
  have e5 := wrap1 (i := i) (by omega)
  have e7 : 0 + (i : Int).toNat * 19 + 0 = i * 19 := by omega
  have hlP := itP_length o
  obtain ⟨U1, U2⟩ := cnU (D := X) (d := o[i].1) (h := hSTA1a0 B0 B1 B2 (itP o) (dipsC X) (dipsC Y) n o.length X.length Y.length (sumL ((groL o n X).take i)) i) (a := .sl (some (4, 0)) X.length 0 false) (rowDs_blk rfl rfl) rfl (by omega)
  obtain ⟨V1, V2⟩ := cnU (D := Y) (d := o[i].1) (h := hSTA1a0 B0 B1 B2 (itP o) (dipsC X) (dipsC Y) n o.length X.length Y.length (sumL ((groL o n X).take i)) i) (a := .sl (some (5, 0)) Y.length 0 false) (rowDs_blk rfl rfl) rfl (by omega)
  have hgi : i < (groL o n X).length := by simpa using hi
  have ht := sumL_take hgi
  rw [groL_get hi hgi, ← H.cn i hi] at ht
  have hb := sumL_bd (l := (groL o n X).take i) (B := 64) fun x hx => groL_bd H x (List.mem_of_mem_take hx)
  have hli : ((groL o n X).take i).length = i := by simp; omega
  rw [hli] at hb
  have c1 : cntD X o[i].1 ≤ X.length := List.countP_le_length
  have c2 : cntD Y o[i].1 ≤ Y.length := List.countP_le_length
  have w1 : IntKind.i64.wrap ((cntD Y o[i].1 : Int) - cntD X o[i].1) = (cntD Y o[i].1 : Int) - cntD X o[i].1 := wrapI64 (by omega)
  have w3 : (if true = true then if (0 : Int) > (cntD Y o[i].1 : Int) - cntD X o[i].1 then 0 else (cntD Y o[i].1 : Int) - cntD X o[i].1 else if (0 : Int) < (cntD Y o[i].1 : Int) - cntD X o[i].1 then 0 else (cntD Y o[i].1 : Int) - cntD X o[i].1) = max ((cntD Y o[i].1 : Int) - cntD X o[i].1) 0 := by
    rw [if_pos rfl]; split <;> omega
  have w2 : IntKind.i64.wrap (sumL ((groL o n X).take i) + max ((cntD Y o[i].1 : Int) - cntD X o[i].1) 0) = sumL ((groL o n X).take (i + 1)) := by rw [ht, wrapI64 (by omega)]
  refine (nfSTA1a ..).trans ?_
  rw [e7, itP_18 hi, U2, V2, w1, e5]
  refine (if_pos (by simp; omega)).trans ?_
  refine (if_pos (by omega)).trans ?_
  refine (if_pos (by omega)).trans ?_
  refine (if_pos (cdec_true.2 (by rw [U2] at U1; exact U1))).trans ?_
  refine (if_pos (by omega)).trans ?_
  refine (if_pos (by omega)).trans ?_
  refine (if_pos (cdec_true.2 (by rw [V2] at V1; exact V1))).trans ?_
  refine (if_pos (by omega)).trans ?_
  refine (if_pos (AV.beq_self _)).trans ?_
  rw [w3, w2, opq_eq]
  refine (if_pos (cdec_true.2 (saysSTA2 H hi))).trans ?_
  rfl
end

section
variable {B0 B1 B2 B3 B4 B5 : ABlk}
theorem stepSTB2 {g u w : Int} {i j : Nat} (hi : i < o.length) (hj : j < X.length) (hyl : Y.length = X.length) (hn : (X.length : Int) = n) (h64 : n ≤ 64) (hge : u ≤ w) (hst : X[j] = o[i].1 → Y[j] = o[i].1) :
    qround Try.prog tSTL 100 4 [(140, .bool true), (164, .bool false)] noT ST2 mST2 (vSTB2 n o.length X.length Y.length g i u w j) (hSTB B0 B1 B2 B3 B4 B5 (itP o) (dipsC X) (dipsC Y)) = some (.norm, vSTB2 n o.length X.length Y.length g i u w ((j + 1 : Nat) : Int), hSTB B0 B1 B2 B3 B4 B5 (itP o) (dipsC X) (dipsC Y)) := by
  have e5 := wrap1 (i := j) (by omega)
  have e6 : 0 + (j : Int).toNat * 18 = j * 18 := by omega
  have e7 : 0 + (i : Int).toNat * 19 + 0 = i * 19 := by omega
  have hlP := itP_length o
  have hlX := dipsC_length X
  have hlY := dipsC_length Y
  refine (nfSTB2a ..).trans ?_
  rw [e6, e7, dipsC_at hj, dipsC_at (l := Y) (by omega), itP_18 hi, e5]
  refine (if_pos (by simp; omega)).trans ?_
  refine (if_pos (by simpa using hge)).trans ?_
  refine (if_pos (by omega)).trans ?_
  refine (if_pos (by omega)).trans ?_
  refine (if_pos (by omega)).trans ?_
  refine (if_pos (by omega)).trans ?_
  generalize X[j] = x at *
  generalize Y[j] = y at *
  generalize o[i].1 = d at *
  by_cases he : x = d
  · have hy := hst he
    subst he hy
    obtain ⟨v, b, q, hb⟩ := y
    obtain ⟨a0, a1, a2, a3, a4, a5, a6, a7, a8, a9, a10, a11, a12, a13, a14, a15, rfl⟩ := sixteen hb
    iterate 40 (refine (if_pos (by first | rfl | decide | (simp [DipC.cells]; done))).trans ?_)
    refine (if_pos (by simp [DipC.cells, boolV, intV])).trans ?_
    refine (if_pos (by omega)).trans ?_
    refine (if_pos (by omega)).trans ?_
    refine (if_pos (by omega)).trans ?_
    refine (if_pos (by omega)).trans ?_
    iterate 40 (refine (if_pos (by first | rfl | decide | (simp [DipC.cells]; done))).trans ?_)
    refine (if_pos (by simp [DipC.cells, boolV, intV])).trans ?_
    rfl
  · clear hst
    obtain ⟨v, b, q, hb⟩ := x
    obtain ⟨v', b', q', hb'⟩ := d
    obtain ⟨a0, a1, a2, a3, a4, a5, a6, a7, a8, a9, a10, a11, a12, a13, a14, a15, rfl⟩ := sixteen hb
    obtain ⟨c0, c1, c2, c3, c4, c5, c6, c7, c8, c9, c10, c11, c12, c13, c14, c15, rfl⟩ := sixteen hb'
    iterate 40 (refine (if_pos (by first | rfl | decide | (simp [DipC.cells]; done))).trans ?_)
    refine (if_neg fun hc => he ?_).trans ?_
    · simp [DipC.cells, boolV, intV] at hc
      exact DipC.ext' hc.1.1 (by simp [hc]) (by simp [hc])
    · rfl
theorem saysSTB2 (H : STx o n X Y) {g : Int} {i : Nat} (hi : i < o.length) :
    LSays bST2 9 (vSTB2 n o.length X.length Y.length g i (cntD X o[i].1) (cntD Y o[i].1) 0) (hSTB B0 B1 B2 B3 B4 B5 (itP o) (dipsC X) (dipsC Y)) (.exit 2) (vSTB2 n o.length X.length Y.length g i (cntD X o[i].1) (cntD Y o[i].1) (if (cntD Y o[i].1 : Int) ≥ cntD X o[i].1 then n else 0)) (hSTB B0 B1 B2 B3 B4 B5 (itP o) (dipsC X) (dipsC Y)) := by
  have hxl := H.xl
  have hyl := H.yl
  by_cases hge : (cntD Y o[i].1 : Int) ≥ cntD X o[i].1
  · rw [if_pos hge]
    refine says_up (fun j => vSTB2 n o.length X.length Y.length g i (cntD X o[i].1) (cntD Y o[i].1) (j : Nat)) (N := X.length) (by simp) rfl (by rw [hxl]) (fun j hj => ⟨[(140, .bool true), (164, .bool false)], stepSTB2 hi hj (by omega) hxl H.h2 hge fun he => ?_⟩) ⟨[(140, .bool false)], (nfSTB2s ..).trans (if_neg (by simp; omega))⟩
    have := H.st i hi (by rw [← H.cn i hi]; exact hge) j (by omega) (by rw [List.getElem?_eq_getElem hj, he])
    rw [List.getElem?_eq_getElem (by omega)] at this
    injection this
  · rw [if_neg hge]
    have h1 := H.h1
    exact says_up (fun j => vSTB2 n o.length X.length Y.length g i (cntD X o[i].1) (cntD Y o[i].1) (j : Nat)) (N := 0) (by simp) rfl rfl (fun j hj => absurd hj (Nat.not_lt_zero _)) ⟨[(140, .bool false)], (nfSTB2s ..).trans ((if_pos (by simp; omega)).trans (if_pos (by simpa using hge)))⟩
theorem stepSTB1 (H : STx o n X Y) {i : Nat} (hi : i < o.length) :
    qround Try.prog tSTL 100 4 [(110, .bool true)] lsST ST1 mST1 (vSTB1 n o.length X.length Y.length (sumL ((groL o n X).take i)) i) (hSTB B0 B1 B2 B3 B4 B5 (itP o) (dipsC X) (dipsC Y)) = some (.norm, vSTB1 n o.length X.length Y.length (sumL ((groL o n X).take (i + 1))) ((i + 1 : Nat) : Int), hSTB B0 B1 B2 B3 B4 B5 (itP o) (dipsC X) (dipsC Y)) := by
  have hl := chk_len H.hc
  have hxl := H.xl
  have hyl := H.yl
  have h64 := H.h2
  have e5 := wrap1 (i := i) (by omega)
  have e7 : 0 + (i : Int).toNat * 19 + 0 = i * 19 := by omega
  have hlP := itP_length o
  obtain ⟨U1, U2⟩ := cnU (D := X) (d := o[i].1) (h := hSTB1a0 B0 B1 B2 B3 B4 B5 (itP o) (dipsC X) (dipsC Y) n o.length X.length Y.length (sumL ((groL o n X).take i)) i) (a := .sl (some (7, 0)) X.length 0 false) (rowDs_blk rfl rfl) rfl (by omega)
  obtain ⟨V1, V2⟩ := cnU (D := Y) (d := o[i].1) (h := hSTB1a0 B0 B1 B2 B3 B4 B5 (itP o) (dipsC X) (dipsC Y) n o.length X.length Y.length (sumL ((groL o n X).take i)) i) (a := .sl (some (8, 0)) Y.length 0 false) (rowDs_blk rfl rfl) rfl (by omega)
  have hgi : i < (groL o n X).length := by simpa using hi
  have ht := sumL_take hgi
  rw [groL_get hi hgi, ← H.cn i hi] at ht
  have hb := sumL_bd (l := (groL o n X).take i) (B := 64) fun x hx => groL_bd H x (List.mem_of_mem_take hx)
  have hli : ((groL o n X).take i).length = i := by simp; omega
  rw [hli] at hb
  have c1 : cntD X o[i].1 ≤ X.length := List.countP_le_length
  have c2 : cntD Y o[i].1 ≤ Y.length := List.countP_le_length
  have w1 : IntKind.i64.wrap ((cntD Y o[i].1 : Int) - cntD X o[i].1) = (cntD Y o[i].1 : Int) - cntD X o[i].1 := wrapI64 (by omega)
  have w3 : (if true = true then if (0 : Int) > (cntD Y o[i].1 : Int) - cntD X o[i].1 then 0 else (cntD Y o[i].1 : Int) - cntD X o[i].1 else if (0 : Int) < (cntD Y o[i].1 : Int) - cntD X o[i].1 then 0 else (cntD Y o[i].1 : Int) - cntD X o[i].1) = max ((cntD Y o[i].1 : Int) - cntD X o[i].1) 0 := by
    rw [if_pos rfl]; split <;> omega
  have w2 : IntKind.i64.wrap (sumL ((groL o n X).take i) + max ((cntD Y o[i].1 : Int) - cntD X o[i].1) 0) = sumL ((groL o n X).take (i + 1)) := by rw [ht, wrapI64 (by omega)]
  refine (nfSTB1a ..).trans ?_
  rw [e7, itP_18 hi, U2, V2, w1, e5]
  refine (if_pos (by simp; omega)).trans ?_
  refine (if_pos (by omega)).trans ?_
  refine (if_pos (by omega)).trans ?_
  refine (if_pos (cdec_true.2 (by rw [U2] at U1; exact U1))).trans ?_
  refine (if_pos (by omega)).trans ?_
  refine (if_pos (by omega)).trans ?_
  refine (if_pos (cdec_true.2 (by rw [V2] at V1; exact V1))).trans ?_
  refine (if_pos (by omega)).trans ?_
  refine (if_pos (AV.beq_self _)).trans ?_
  rw [w3, w2, opq_eq]
  refine (if_pos (cdec_true.2 (saysSTB2 H hi))).trans ?_
  rfl
end

theorem rowI_take {h : AHeap} {k n r : Nat} {e : Bool} {md : Md} {par : Option Nat} {l : List Int} (hk : h[k]? = some (.cells (intL l) 1 md par)) (hn : n ≤ l.length) : rowI h (.sl (some (k, 0)) n r e) (l.take n) := by
  constructor
  · simp [rowOk, hk]; omega
  · simp only [rowOf, hk, List.drop_zero, Nat.mul_one, intL, List.map_take]
theorem stLens {w v : List Int} {ou n : Int} (hb : ¬ ((w.length : Int) < 2 ∨ (w.length : Int) > 30 ∨ (v.length : Int) < w.length ∨ (v.length : Int) > 32 ∨ n < 1 ∨ n > 64)) : (svP w false).length = w.length ∧ (svP (v.take w.length) false).length = w.length ∧ chkP (svP w false) = 0 ∧ chkP (svP (v.take w.length) false) = 0 := by
  refine ⟨by simp [svP]; omega, by simp [svP]; omega, svN_chk _ _ _ (by omega), svN_chk _ _ _ (by omega)⟩
theorem runSTA (w v : List Int) (ou n : Int) (hb : ¬ ((w.length : Int) < 2 ∨ (w.length : Int) > 30 ∨ (v.length : Int) < w.length ∨ (v.length : Int) > 32 ∨ n < 1 ∨ n > 64)) (r : Nat) (hr : ou % ((w.length + 1 : Nat) : Int) = r) (hrw : ¬ r < w.length) : ∃ h', Runs Try.prog 5 [.sl (some (0, 0)) w.length 0 false, .sl (some (1, 0)) v.length 0 false, .int .i64 ou, .int .i64 n] [.cells (intL w) 1 .far none, .cells (intL v) 1 .far none] (.bool true) h' := by
  obtain ⟨hPl, hQl, hc, hcQ⟩ := stLens (ou := ou) hb
  generalize hP : svP w false = P at *
  generalize hQ : svP (v.take w.length) false = Q at *
  have gW : rowI [.cells (intL w) 1 .far none, .cells (intL v) 1 .far none] (.sl (some (0, 0)) w.length 0 false) w := rowI_blk rfl rfl
  have gV : ∀ r e, rowI [.cells (intL w) 1 .far none, .cells (intL v) 1 .far none, .cells (itP P) 19 .own none] (.sl (some (1, 0)) w.length r e) (v.take w.length) := fun r e => rowI_take rfl (by omega)
  have q1 : IntKind.i64.wrap ((Q.length : Int) + 1) = ((w.length + 1 : Nat) : Int) := by rw [wrap1 (by omega), hQl]
  obtain ⟨H, e0, f0⟩ := STx.of (P := P) (o := Q) (n := n) (by omega) (by omega) hc (by omega) hcQ (by omega) rfl rfl
  generalize hX : fillP P [] n = X at *
  generalize hY : fillP Q X n = Y at *
  have hXl := H.xl
  have hYl := H.yl
  have hsl : sumL ((groL Q n X).take Q.length) = sumL (groL Q n X) := by rw [List.take_of_length_le (by simp)]
  have k1 : True → ∃ j, GReach (roundG Try.prog (deepT Try.prog tSTL 100 4) (lsT lsST) ST1 mST1) 6 j (vSTA1 n Q.length X.length Y.length 0 0) (hSTA (.cells (intL w) 1 .far none) (.cells (intL v) 1 .far none) (.cells (itP P) 19 .own none) (itP Q) (dipsC X) (dipsC Y)) (.exit 0) (vSTA1 n Q.length X.length Y.length (sumL (groL Q n X)) Q.length) (hSTA (.cells (intL w) 1 .far none) (.cells (intL v) 1 .far none) (.cells (itP P) 19 .own none) (itP Q) (dipsC X) (dipsC Y)) := by
    intro _
    refine loop_T (fun i => (vSTA1 n Q.length X.length Y.length (sumL ((groL Q n X).take i)) i, (hSTA (.cells (intL w) 1 .far none) (.cells (intL v) 1 .far none) (.cells (itP P) 19 .own none) (itP Q) (dipsC X) (dipsC Y)))) (N := Q.length) (by simp) (fun i hi => ⟨_, _, _, stepSTA1 H hi, Gc.refl⟩) ⟨[(110, .bool false)], _, _, (nfSTA1s ..).trans (if_pos (by simp)), ?_⟩
    rw [hsl]; exact Gc.refl
  have lp : loopsOf (bodyOf Try.prog 5) = [ST1] := by kernel_rfl
  obtain ⟨V1, V2⟩ := mvU (A := X) (B := Y) (h := hSTA (.cells (intL w) 1 .far none) (.cells (intL v) 1 .far none) (.cells (itP P) 19 .own none) (itP Q) (dipsC X) (dipsC Y)) (a := .sl (some (4, 0)) X.length 0 false) (b := .sl (some (5, 0)) Y.length 0 false) (rowDs_blk rfl rfl) (rowDs_blk rfl rfl) (by omega) (by omega)
  refine Runs.valT (tSTOk P Q X Y P.length Q.length X.length Y.length 4 5 0 0) (F := 100) (n := 4) (pr := [(48, .bool false), (65, .bool false), (106, .bool false)]) (only (k := 14) lp (fixC_T (tSTOk _ _ _ _ _ _ _ _ _ _ _ _) (F := 100) (n := 4) (LS := lsST) lsSTOk k1)) ?_
  refine (nfSTAm (C := []) ..).trans ?_
  simp only [q1, hr, Int.toNat_natCast, Nat.sub_zero]
  refine (if_neg (by first | omega | (simp [capOf]; omega) | (simp; done) | (simp; omega) | exact ⟨trivial, trivial, .inr trivial, trivial, itP_cell _⟩ | exact ⟨trivial, by simp; omega, .inr trivial, trivial, itP_cell _⟩ | exact ⟨by omega, trivial, by omega⟩ | exact ⟨trivial, by simp, .inr trivial, trivial, itP_cell _⟩)).trans ?_
  refine (if_neg (by first | omega | (simp [capOf]; omega) | (simp; done) | (simp; omega) | exact ⟨trivial, trivial, .inr trivial, trivial, itP_cell _⟩ | exact ⟨trivial, by simp; omega, .inr trivial, trivial, itP_cell _⟩ | exact ⟨by omega, trivial, by omega⟩ | exact ⟨trivial, by simp, .inr trivial, trivial, itP_cell _⟩)).trans ?_
  refine (if_neg (by first | omega | (simp [capOf]; omega) | (simp; done) | (simp; omega) | exact ⟨trivial, trivial, .inr trivial, trivial, itP_cell _⟩ | exact ⟨trivial, by simp; omega, .inr trivial, trivial, itP_cell _⟩ | exact ⟨by omega, trivial, by omega⟩ | exact ⟨trivial, by simp, .inr trivial, trivial, itP_cell _⟩)).trans ?_
  refine (if_neg (by first | omega | (simp [capOf]; omega) | (simp; done) | (simp; omega) | exact ⟨trivial, trivial, .inr trivial, trivial, itP_cell _⟩ | exact ⟨trivial, by simp; omega, .inr trivial, trivial, itP_cell _⟩ | exact ⟨by omega, trivial, by omega⟩ | exact ⟨trivial, by simp, .inr trivial, trivial, itP_cell _⟩)).trans ?_
  refine (if_neg (by first | omega | (simp [capOf]; omega) | (simp; done) | (simp; omega) | exact ⟨trivial, trivial, .inr trivial, trivial, itP_cell _⟩ | exact ⟨trivial, by simp; omega, .inr trivial, trivial, itP_cell _⟩ | exact ⟨by omega, trivial, by omega⟩ | exact ⟨trivial, by simp, .inr trivial, trivial, itP_cell _⟩)).trans ?_
  refine (if_pos (by first | omega | (simp [capOf]; omega) | (simp; done) | (simp; omega) | exact ⟨trivial, trivial, .inr trivial, trivial, itP_cell _⟩ | exact ⟨trivial, by simp; omega, .inr trivial, trivial, itP_cell _⟩ | exact ⟨by omega, trivial, by omega⟩ | exact ⟨trivial, by simp, .inr trivial, trivial, itP_cell _⟩)).trans ?_
  refine (if_pos (cdec_true.2 (.mk w false _ _ gW P _ hP rfl))).trans ?_
  refine (if_pos (by first | omega | (simp [capOf]; omega) | (simp; done) | (simp; omega) | exact ⟨trivial, trivial, .inr trivial, trivial, itP_cell _⟩ | exact ⟨trivial, by simp; omega, .inr trivial, trivial, itP_cell _⟩ | exact ⟨by omega, trivial, by omega⟩ | exact ⟨trivial, by simp, .inr trivial, trivial, itP_cell _⟩)).trans ?_
  refine (if_pos (cdec_true.2 (.mk (v.take w.length) false _ _ (gV _ _) Q _ hQ rfl))).trans ?_
  refine (if_pos (by first | omega | (simp [capOf]; omega) | (simp; done) | (simp; omega) | exact ⟨trivial, trivial, .inr trivial, trivial, itP_cell _⟩ | exact ⟨trivial, by simp; omega, .inr trivial, trivial, itP_cell _⟩ | exact ⟨by omega, trivial, by omega⟩ | exact ⟨trivial, by simp, .inr trivial, trivial, itP_cell _⟩)).trans ?_
  refine (if_pos (by first | omega | (simp [capOf]; omega) | (simp; done) | (simp; omega) | exact ⟨trivial, trivial, .inr trivial, trivial, itP_cell _⟩ | exact ⟨trivial, by simp; omega, .inr trivial, trivial, itP_cell _⟩ | exact ⟨by omega, trivial, by omega⟩ | exact ⟨trivial, by simp, .inr trivial, trivial, itP_cell _⟩)).trans ?_
  refine (if_pos (cdec_true.2 (.mk P [] n _ _ _ (rowDs_nil _ _) (rowP_blk rfl rfl) X _ 0 hX rfl e0))).trans ?_
  refine (if_pos (cdec_true.2 (.mk Q X n _ _ _ (rowDs_blk rfl rfl) (rowP_blk rfl rfl) Y _ 0 hY rfl f0))).trans ?_
  refine (if_neg (by first | omega | (simp [capOf]; omega) | (simp; done) | (simp; omega) | exact ⟨trivial, trivial, .inr trivial, trivial, itP_cell _⟩ | exact ⟨trivial, by simp; omega, .inr trivial, trivial, itP_cell _⟩ | exact ⟨by omega, trivial, by omega⟩ | exact ⟨trivial, by simp, .inr trivial, trivial, itP_cell _⟩)).trans ?_
  refine (if_neg (by first | omega | (simp [capOf]; omega) | (simp; done) | (simp; omega) | exact ⟨trivial, trivial, .inr trivial, trivial, itP_cell _⟩ | exact ⟨trivial, by simp; omega, .inr trivial, trivial, itP_cell _⟩ | exact ⟨by omega, trivial, by omega⟩ | exact ⟨trivial, by simp, .inr trivial, trivial, itP_cell _⟩)).trans ?_
  refine (if_neg (by first | omega | (simp [capOf]; omega) | (simp; done) | (simp; omega) | exact ⟨trivial, trivial, .inr trivial, trivial, itP_cell _⟩ | exact ⟨trivial, by simp; omega, .inr trivial, trivial, itP_cell _⟩ | exact ⟨by omega, trivial, by omega⟩ | exact ⟨trivial, by simp, .inr trivial, trivial, itP_cell _⟩)).trans ?_
  refine (if_pos (by first | omega | (simp [capOf]; omega) | (simp; done) | (simp; omega) | exact ⟨trivial, trivial, .inr trivial, trivial, itP_cell _⟩ | exact ⟨trivial, by simp; omega, .inr trivial, trivial, itP_cell _⟩ | exact ⟨by omega, trivial, by omega⟩ | exact ⟨trivial, by simp, .inr trivial, trivial, itP_cell _⟩)).trans ?_
  refine (if_pos (cdec_true.2 (⟨trivial, trivial, rfl⟩))).trans ?_
  refine (if_pos (cdec_true.2 (V1))).trans ?_
  exact if_pos (by unfold hSTAm9; rw [show hSTA (.cells (intL w) 1 .far none) (.cells (intL v) 1 .far none) (.cells (itP P) 19 .own none) (itP Q) (dipsC X) (dipsC Y) = [ABlk.cells (intL w) 1 Md.far none, .cells (intL v) 1 .far none, .cells (itP P) 19 .own none, .cells (itP Q) 19 .own none, .cells (dipsC X) 18 .own none, .cells (dipsC Y) 18 .own none] from rfl] at V2; rw [V2, H.mv]; simp)
theorem runSTB (w v : List Int) (ou n : Int) (hb : ¬ ((w.length : Int) < 2 ∨ (w.length : Int) > 30 ∨ (v.length : Int) < w.length ∨ (v.length : Int) > 32 ∨ n < 1 ∨ n > 64)) (r : Nat) (hr : ou % ((w.length + 1 : Nat) : Int) = r) (hrw : r < w.length) : ∃ h', Runs Try.prog 5 [.sl (some (0, 0)) w.length 0 false, .sl (some (1, 0)) v.length 0 false, .int .i64 ou, .int .i64 n] [.cells (intL w) 1 .far none, .cells (intL v) 1 .far none] (.bool true) h' := by
  obtain ⟨hPl, hQl, hc, hcQ⟩ := stLens (ou := ou) hb
  generalize hP : svP w false = P at *
  generalize hQ : svP (v.take w.length) false = Q at *
  have gW : rowI [.cells (intL w) 1 .far none, .cells (intL v) 1 .far none] (.sl (some (0, 0)) w.length 0 false) w := rowI_blk rfl rfl
  have gV : ∀ r e, rowI [.cells (intL w) 1 .far none, .cells (intL v) 1 .far none, .cells (itP P) 19 .own none] (.sl (some (1, 0)) w.length r e) (v.take w.length) := fun r e => rowI_take rfl (by omega)
  have q1 : IntKind.i64.wrap ((Q.length : Int) + 1) = ((w.length + 1 : Nat) : Int) := by rw [wrap1 (by omega), hQl]
  have hrQ : r < Q.length := by omega
  have hperm := outP_perm hrQ
  have hcO : chkP (outP Q r) = 0 := chk_sub (List.sublist_append_left _ _) (chk_perm hperm hcQ)
  have hOl := outP_len hrQ
  obtain ⟨H, e0, f0⟩ := STx.of (P := P) (o := outP Q r) (n := n) (by omega) (by omega) hc (by omega) hcO (by omega) rfl rfl
  generalize hX : fillP P [] n = X at *
  generalize hY : fillP (outP Q r) X n = Y at *
  have hXl := H.xl
  have hYl := H.yl
  have hlQ := itP_length Q
  have rw0 : IntKind.i64.wrap ((r : Int) + 1) = ((r + 1 : Nat) : Int) := wrap1 (by omega)
  have t3 : 0 + (r + 1) * 19 = (r + 1) * 19 := by omega
  have c1 : List.take (r * 19) (itP Q) = itP (Q.take r) := itP_take Q r
  have c2 : List.take ((Q.length - (r + 1)) * 19) (List.drop ((r + 1) * 19) (itP Q)) = itP (Q.drop (r + 1)) := by
    rw [itP_drop]; exact List.take_of_length_le (by simp)
  have c3 : List.take ((0 + r) * 19) (itP (Q.take r)) = itP (Q.take r) := List.take_of_length_le (by simp; omega)
  have c4 : itP (Q.take r) ++ itP (Q.drop (r + 1)) = itP (outP Q r) := (itP_append _ _).symm
  have hol : 0 + r + (Q.length - (r + 1)) = (outP Q r).length := by omega
  have hsl : sumL ((groL (outP Q r) n X).take (outP Q r).length) = sumL (groL (outP Q r) n X) := by rw [List.take_of_length_le (by simp)]
  have k1 : True → ∃ j, GReach (roundG Try.prog (deepT Try.prog tSTL 100 4) (lsT lsST) ST1 mST1) 9 j (vSTB1 n (outP Q r).length X.length Y.length 0 0) (hSTB (.cells (intL w) 1 .far none) (.cells (intL v) 1 .far none) (.cells (itP P) 19 .own none) (.cells (itP Q) 19 .own none) .dead (.cells (itP (Q.take r)) 19 .ro none) (itP (outP Q r)) (dipsC X) (dipsC Y)) (.exit 0) (vSTB1 n (outP Q r).length X.length Y.length (sumL (groL (outP Q r) n X)) (outP Q r).length) (hSTB (.cells (intL w) 1 .far none) (.cells (intL v) 1 .far none) (.cells (itP P) 19 .own none) (.cells (itP Q) 19 .own none) .dead (.cells (itP (Q.take r)) 19 .ro none) (itP (outP Q r)) (dipsC X) (dipsC Y)) := by
    intro _
    refine loop_T (fun i => (vSTB1 n (outP Q r).length X.length Y.length (sumL ((groL (outP Q r) n X).take i)) i, (hSTB (.cells (intL w) 1 .far none) (.cells (intL v) 1 .far none) (.cells (itP P) 19 .own none) (.cells (itP Q) 19 .own none) .dead (.cells (itP (Q.take r)) 19 .ro none) (itP (outP Q r)) (dipsC X) (dipsC Y)))) (N := (outP Q r).length) (by simp) (fun i hi => ⟨_, _, _, stepSTB1 H hi, Gc.refl⟩) ⟨[(110, .bool false)], _, _, (nfSTB1s ..).trans (if_pos (by simp)), ?_⟩
    rw [hsl]; exact Gc.refl
  have lp : loopsOf (bodyOf Try.prog 5) = [ST1] := by kernel_rfl
  obtain ⟨V1, V2⟩ := mvU (A := X) (B := Y) (h := hSTB (.cells (intL w) 1 .far none) (.cells (intL v) 1 .far none) (.cells (itP P) 19 .own none) (.cells (itP Q) 19 .own none) .dead (.cells (itP (Q.take r)) 19 .ro none) (itP (outP Q r)) (dipsC X) (dipsC Y)) (a := .sl (some (7, 0)) X.length 0 false) (b := .sl (some (8, 0)) Y.length 0 false) (rowDs_blk rfl rfl) (rowDs_blk rfl rfl) (by omega) (by omega)
  have hm4 : hSTBm4 True (intL w) (intL v) w.length v.length ou n P Q X Y P.length Q.length X.length Y.length (outP Q r).length 0 0 (sumL (groL (outP Q r) n X)) (.cells (intL w) 1 .far none) (.cells (intL v) 1 .far none) (.cells (itP P) 19 .own none) (.cells (itP Q) 19 .own none) .dead (.cells (itP (Q.take r)) 19 .ro none) (itP (outP Q r)) = [ABlk.cells (intL w) 1 Md.far none, .cells (intL v) 1 .far none, .cells (itP P) 19 .own none, .cells (itP Q) 19 .own none, .dead, .cells (itP (Q.take r)) 19 .ro none, .cells (itP (outP Q r)) 19 .own (some 5)] := by
    unfold hSTBm4
    simp only [q1, hr, rw0, Int.toNat_natCast, Nat.sub_zero, t3, c1, c2, c3, c4]
  have hm6 : hSTBm6 True (intL w) (intL v) w.length v.length ou n P Q X Y P.length Q.length X.length Y.length (outP Q r).length 0 0 (sumL (groL (outP Q r) n X)) (.cells (intL w) 1 .far none) (.cells (intL v) 1 .far none) (.cells (itP P) 19 .own none) (.cells (itP Q) 19 .own none) .dead (.cells (itP (Q.take r)) 19 .ro none) (itP (outP Q r)) = [ABlk.cells (intL w) 1 Md.far none, .cells (intL v) 1 .far none, .cells (itP P) 19 .own none, .cells (itP Q) 19 .own none, .dead, .cells (itP (Q.take r)) 19 .ro none, .cells (itP (outP Q r)) 19 .own (some 5), .cells (dipsC X) 18 .own none] := by
    unfold hSTBm6
    simp only [q1, hr, rw0, Int.toNat_natCast, Nat.sub_zero, t3, c1, c2, c3, c4]
  have hm8 : hSTBm8 True (intL w) (intL v) w.length v.length ou n P Q X Y P.length Q.length X.length Y.length (outP Q r).length 0 0 (sumL (groL (outP Q r) n X)) (.cells (intL w) 1 .far none) (.cells (intL v) 1 .far none) (.cells (itP P) 19 .own none) (.cells (itP Q) 19 .own none) .dead (.cells (itP (Q.take r)) 19 .ro none) (itP (outP Q r)) = [ABlk.cells (intL w) 1 Md.far none, .cells (intL v) 1 .far none, .cells (itP P) 19 .own none, .cells (itP Q) 19 .own none, .dead, .cells (itP (Q.take r)) 19 .ro none, .cells (itP (outP Q r)) 19 .own (some 5), .cells (dipsC X) 18 .own none, .cells (dipsC Y) 18 .own none] := by
    unfold hSTBm8
    simp only [q1, hr, rw0, Int.toNat_natCast, Nat.sub_zero, t3, c1, c2, c3, c4]
  refine Runs.valT (tSTOk P Q X Y P.length Q.length X.length Y.length 7 8 0 0) (F := 100) (n := 4) (pr := [(48, .bool false), (65, .bool true), (106, .bool false)]) (only (k := 14) lp (fixC_T (tSTOk _ _ _ _ _ _ _ _ _ _ _ _) (F := 100) (n := 4) (LS := lsST) lsSTOk k1)) ?_
  refine (nfSTBm ..).trans ?_
  simp only [q1, hr, rw0, Int.toNat_natCast, Nat.sub_zero, t3, c1, c2, c3, hol, hm4, hm6, hm8]
  refine (if_neg (by first | omega | (simp [capOf]; omega) | (simp; done) | (simp; omega) | exact ⟨trivial, trivial, .inr trivial, trivial, itP_cell _⟩ | exact ⟨trivial, by simp; omega, .inr trivial, trivial, itP_cell _⟩ | exact ⟨by omega, trivial, by omega⟩ | exact ⟨trivial, by simp, .inr trivial, trivial, itP_cell _⟩)).trans ?_
  refine (if_neg (by first | omega | (simp [capOf]; omega) | (simp; done) | (simp; omega) | exact ⟨trivial, trivial, .inr trivial, trivial, itP_cell _⟩ | exact ⟨trivial, by simp; omega, .inr trivial, trivial, itP_cell _⟩ | exact ⟨by omega, trivial, by omega⟩ | exact ⟨trivial, by simp, .inr trivial, trivial, itP_cell _⟩)).trans ?_
  refine (if_neg (by first | omega | (simp [capOf]; omega) | (simp; done) | (simp; omega) | exact ⟨trivial, trivial, .inr trivial, trivial, itP_cell _⟩ | exact ⟨trivial, by simp; omega, .inr trivial, trivial, itP_cell _⟩ | exact ⟨by omega, trivial, by omega⟩ | exact ⟨trivial, by simp, .inr trivial, trivial, itP_cell _⟩)).trans ?_
  refine (if_neg (by first | omega | (simp [capOf]; omega) | (simp; done) | (simp; omega) | exact ⟨trivial, trivial, .inr trivial, trivial, itP_cell _⟩ | exact ⟨trivial, by simp; omega, .inr trivial, trivial, itP_cell _⟩ | exact ⟨by omega, trivial, by omega⟩ | exact ⟨trivial, by simp, .inr trivial, trivial, itP_cell _⟩)).trans ?_
  refine (if_neg (by first | omega | (simp [capOf]; omega) | (simp; done) | (simp; omega) | exact ⟨trivial, trivial, .inr trivial, trivial, itP_cell _⟩ | exact ⟨trivial, by simp; omega, .inr trivial, trivial, itP_cell _⟩ | exact ⟨by omega, trivial, by omega⟩ | exact ⟨trivial, by simp, .inr trivial, trivial, itP_cell _⟩)).trans ?_
  refine (if_pos (by first | omega | (simp [capOf]; omega) | (simp; done) | (simp; omega) | exact ⟨trivial, trivial, .inr trivial, trivial, itP_cell _⟩ | exact ⟨trivial, by simp; omega, .inr trivial, trivial, itP_cell _⟩ | exact ⟨by omega, trivial, by omega⟩ | exact ⟨trivial, by simp, .inr trivial, trivial, itP_cell _⟩)).trans ?_
  refine (if_pos (cdec_true.2 (.mk w false _ _ gW P _ hP rfl))).trans ?_
  refine (if_pos (by first | omega | (simp [capOf]; omega) | (simp; done) | (simp; omega) | exact ⟨trivial, trivial, .inr trivial, trivial, itP_cell _⟩ | exact ⟨trivial, by simp; omega, .inr trivial, trivial, itP_cell _⟩ | exact ⟨by omega, trivial, by omega⟩ | exact ⟨trivial, by simp, .inr trivial, trivial, itP_cell _⟩)).trans ?_
  refine (if_pos (cdec_true.2 (.mk (v.take w.length) false _ _ (gV _ _) Q _ hQ rfl))).trans ?_
  refine (if_pos (by first | omega | (simp [capOf]; omega) | (simp; done) | (simp; omega) | exact ⟨trivial, trivial, .inr trivial, trivial, itP_cell _⟩ | exact ⟨trivial, by simp; omega, .inr trivial, trivial, itP_cell _⟩ | exact ⟨by omega, trivial, by omega⟩ | exact ⟨trivial, by simp, .inr trivial, trivial, itP_cell _⟩)).trans ?_
  refine (if_pos (by first | omega | (simp [capOf]; omega) | (simp; done) | (simp; omega) | exact ⟨trivial, trivial, .inr trivial, trivial, itP_cell _⟩ | exact ⟨trivial, by simp; omega, .inr trivial, trivial, itP_cell _⟩ | exact ⟨by omega, trivial, by omega⟩ | exact ⟨trivial, by simp, .inr trivial, trivial, itP_cell _⟩)).trans ?_
  refine (if_pos (by first | omega | (simp [capOf]; omega) | (simp; done) | (simp; omega) | exact ⟨trivial, trivial, .inr trivial, trivial, itP_cell _⟩ | exact ⟨trivial, by simp; omega, .inr trivial, trivial, itP_cell _⟩ | exact ⟨by omega, trivial, by omega⟩ | exact ⟨trivial, by simp, .inr trivial, trivial, itP_cell _⟩)).trans ?_
  refine (if_pos (by first | omega | (simp [capOf]; omega) | (simp; done) | (simp; omega) | exact ⟨trivial, trivial, .inr trivial, trivial, itP_cell _⟩ | exact ⟨trivial, by simp; omega, .inr trivial, trivial, itP_cell _⟩ | exact ⟨by omega, trivial, by omega⟩ | exact ⟨trivial, by simp, .inr trivial, trivial, itP_cell _⟩)).trans ?_
  refine (if_pos (by first | omega | (simp [capOf]; omega) | (simp; done) | (simp; omega) | exact ⟨trivial, trivial, .inr trivial, trivial, itP_cell _⟩ | exact ⟨trivial, by simp; omega, .inr trivial, trivial, itP_cell _⟩ | exact ⟨by omega, trivial, by omega⟩ | exact ⟨trivial, by simp, .inr trivial, trivial, itP_cell _⟩)).trans ?_
  refine (if_pos (by first | omega | (simp [capOf]; omega) | (simp; done) | (simp; omega) | exact ⟨trivial, trivial, .inr trivial, trivial, itP_cell _⟩ | exact ⟨trivial, by simp; omega, .inr trivial, trivial, itP_cell _⟩ | exact ⟨by omega, trivial, by omega⟩ | exact ⟨trivial, by simp, .inr trivial, trivial, itP_cell _⟩)).trans ?_
  refine (if_pos (by first | omega | (simp [capOf]; omega) | (simp; done) | (simp; omega) | exact ⟨trivial, trivial, .inr trivial, trivial, itP_cell _⟩ | exact ⟨trivial, by simp; omega, .inr trivial, trivial, itP_cell _⟩ | exact ⟨by omega, trivial, by omega⟩ | exact ⟨trivial, by simp, .inr trivial, trivial, itP_cell _⟩)).trans ?_
  refine (if_pos (by first | omega | (simp [capOf]; omega) | (simp; done) | (simp; omega) | exact ⟨trivial, trivial, .inr trivial, trivial, itP_cell _⟩ | exact ⟨trivial, by simp; omega, .inr trivial, trivial, itP_cell _⟩ | exact ⟨by omega, trivial, by omega⟩ | exact ⟨trivial, by simp, .inr trivial, trivial, itP_cell _⟩)).trans ?_
  refine (if_pos (by first | omega | (simp [capOf]; omega) | (simp; done) | (simp; omega) | exact ⟨trivial, trivial, .inr trivial, trivial, itP_cell _⟩ | exact ⟨trivial, by simp; omega, .inr trivial, trivial, itP_cell _⟩ | exact ⟨by omega, trivial, by omega⟩ | exact ⟨trivial, by simp, .inr trivial, trivial, itP_cell _⟩)).trans ?_
  refine (if_pos (by first | omega | (simp [capOf]; omega) | (simp; done) | (simp; omega) | exact ⟨trivial, trivial, .inr trivial, trivial, itP_cell _⟩ | exact ⟨trivial, by simp; omega, .inr trivial, trivial, itP_cell _⟩ | exact ⟨by omega, trivial, by omega⟩ | exact ⟨trivial, by simp, .inr trivial, trivial, itP_cell _⟩)).trans ?_
  refine (if_pos (by first | omega | (simp [capOf]; omega) | (simp; done) | (simp; omega) | exact ⟨trivial, trivial, .inr trivial, trivial, itP_cell _⟩ | exact ⟨trivial, by simp; omega, .inr trivial, trivial, itP_cell _⟩ | exact ⟨by omega, trivial, by omega⟩ | exact ⟨trivial, by simp, .inr trivial, trivial, itP_cell _⟩)).trans ?_
  refine (if_pos (cdec_true.2 (.mk P [] n _ _ _ (rowDs_nil _ _) (rowP_blk rfl rfl) X _ 0 hX rfl e0))).trans ?_
  refine (if_pos (cdec_true.2 (.mk (outP Q r) X n _ _ _ (rowDs_blk rfl rfl) (rowP_blk rfl rfl) Y _ 0 hY rfl f0))).trans ?_
  refine (if_neg (by first | omega | (simp [capOf]; omega) | (simp; done) | (simp; omega) | exact ⟨trivial, trivial, .inr trivial, trivial, itP_cell _⟩ | exact ⟨trivial, by simp; omega, .inr trivial, trivial, itP_cell _⟩ | exact ⟨by omega, trivial, by omega⟩ | exact ⟨trivial, by simp, .inr trivial, trivial, itP_cell _⟩)).trans ?_
  refine (if_neg (by first | omega | (simp [capOf]; omega) | (simp; done) | (simp; omega) | exact ⟨trivial, trivial, .inr trivial, trivial, itP_cell _⟩ | exact ⟨trivial, by simp; omega, .inr trivial, trivial, itP_cell _⟩ | exact ⟨by omega, trivial, by omega⟩ | exact ⟨trivial, by simp, .inr trivial, trivial, itP_cell _⟩)).trans ?_
  refine (if_neg (by first | omega | (simp [capOf]; omega) | (simp; done) | (simp; omega) | exact ⟨trivial, trivial, .inr trivial, trivial, itP_cell _⟩ | exact ⟨trivial, by simp; omega, .inr trivial, trivial, itP_cell _⟩ | exact ⟨by omega, trivial, by omega⟩ | exact ⟨trivial, by simp, .inr trivial, trivial, itP_cell _⟩)).trans ?_
  refine (if_pos (by first | omega | (simp [capOf]; omega) | (simp; done) | (simp; omega) | exact ⟨trivial, trivial, .inr trivial, trivial, itP_cell _⟩ | exact ⟨trivial, by simp; omega, .inr trivial, trivial, itP_cell _⟩ | exact ⟨by omega, trivial, by omega⟩ | exact ⟨trivial, by simp, .inr trivial, trivial, itP_cell _⟩)).trans ?_
  refine (if_pos (cdec_true.2 (⟨trivial, trivial, rfl⟩))).trans ?_
  refine (if_pos (cdec_true.2 (V1))).trans ?_
  exact if_pos (by rw [show hSTBm9 True (intL w) (intL v) w.length v.length ou n P Q X Y P.length Q.length X.length Y.length (outP Q r).length 0 0 (sumL (groL (outP Q r) n X)) (.cells (intL w) 1 .far none) (.cells (intL v) 1 .far none) (.cells (itP P) 19 .own none) (.cells (itP Q) 19 .own none) .dead (.cells (itP (Q.take r)) 19 .ro none) (itP (outP Q r)) = hSTB (.cells (intL w) 1 .far none) (.cells (intL v) 1 .far none) (.cells (itP P) 19 .own none) (.cells (itP Q) 19 .own none) .dead (.cells (itP (Q.take r)) 19 .ro none) (itP (outP Q r)) (dipsC X) (dipsC Y) from rfl, V2, H.mv]; simp)
theorem runSlotsStay (w v : List Int) (ou n : Int) (hw : ∀ x ∈ w, (Lit.int .i64 x).wf = true) (hv : ∀ x ∈ v, (Lit.int .i64 x).wf = true) (ho : -9223372036854775808 ≤ ou ∧ ou < 9223372036854775808) (hn : -9223372036854775808 ≤ n ∧ n < 9223372036854775808) : ∃ h', Runs Try.prog 5 [.sl (some (0, 0)) w.length 0 false, .sl (some (1, 0)) v.length 0 false, .int .i64 ou, .int .i64 n] [.cells (w.map (AV.int .i64)) 1 .far none, .cells (v.map (AV.int .i64)) 1 .far none] (.bool true) h' := by
  by_cases hb : (w.length : Int) < 2 ∨ (w.length : Int) > 30 ∨ (v.length : Int) < w.length ∨ (v.length : Int) > 32 ∨ n < 1 ∨ n > 64
  · refine Runs.valT0 (tSTOk _ _ _ _ _ _ _ _ _ _ _ _) (F := 100) (n := 4) (pr := [(48, .bool true)]) ((nfSTl ..).trans ?_)
    by_cases h1 : (w.length : Int) < 2
    · exact if_pos (decide_eq_true h1)
    refine (if_neg (by simpa using h1)).trans ?_
    by_cases h2 : (w.length : Int) > 30
    · exact if_pos (decide_eq_true h2)
    refine (if_neg (by simpa using h2)).trans ?_
    by_cases h3 : (v.length : Int) < w.length
    · exact if_pos (decide_eq_true h3)
    refine (if_neg (by simpa using h3)).trans ?_
    by_cases h4 : (v.length : Int) > 32
    · exact if_pos (decide_eq_true h4)
    refine (if_neg (by simpa using h4)).trans ?_
    by_cases h5 : n < 1
    · exact if_pos (decide_eq_true h5)
    refine (if_neg (by simpa using h5)).trans ?_
    exact if_pos (by simp; omega)
  obtain ⟨r, hr⟩ : ∃ r : Nat, ou % ((w.length + 1 : Nat) : Int) = r := ⟨(ou % ((w.length + 1 : Nat) : Int)).toNat, by have := Int.emod_nonneg ou (show ((w.length + 1 : Nat) : Int) ≠ 0 by omega); omega⟩
  by_cases hrw : r < w.length
  · exact runSTB w v ou n hb r hr hrw
  · exact runSTA w v ou n hb r hr hrw

end Go.Proofs.Ytlppbeoiphglcaa.L

