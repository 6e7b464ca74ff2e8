/- HealthOrder's run. -/
import Derived.Test.YtpghomcohejejaaHealthOrderP
import Derived.Test.YtpghomcohejejaaHealthOrderM
set_option autoImplicit false
set_option maxRecDepth 100000
set_option linter.unusedVariables false
set_option linter.unusedSimpArgs false
namespace Go.Proofs.Ytpghomcohejejaa.L
open Go Go.Abs

theorem get_bools {l : List Bool} {i : Nat} (h : i < l.length) : (l.map AV.bool)[i]? = some (.bool (l.getD i false)) := by
  simp [List.getElem?_eq_getElem h, List.getD]
def hoK (l : List Int) (i : Nat) : Int := l.getD i 0 % 7
noncomputable def hoS (l : List Int) (w : List Bool) : Nat → HS
  | 0 => newS 3
  | i + 1 => telS (hoS l w i) (dipN true (hoK l i)) (w.getD i false)
def lnK (L : List Int) (k : Int) (w : Bool) : List Int := if w = true then rstI L k else if hadI L k = true then L else L ++ [k]
def hoL (l : List Int) (w : List Bool) : Nat → List Int
  | 0 => []
  | i + 1 => lnK (hoL l w i) (hoK l i) (w.getD i false)
theorem hoS_f (l : List Int) (w : List Bool) : ∀ i, (hoS l w i).f = 3
  | 0 => rfl
  | i + 1 => by rw [hoS, telS_f, hoS_f l w i]
theorem hoS_ok (l : List Int) (w : List Bool) : ∀ i, HOk i (hoS l w i)
  | 0 => newS_ok 3
  | i + 1 => tel_ok (hoS_ok l w i) _ _
theorem hoK_rng (l : List Int) (i : Nat) : 0 ≤ hoK l i ∧ hoK l i < 7 := by unfold hoK; omega
theorem lnK_rng {L : List Int} {k : Int} {w : Bool} (h : ∀ x ∈ L, 0 ≤ x ∧ x < 7) (hk : 0 ≤ k ∧ k < 7) : ∀ x ∈ lnK L k w, 0 ≤ x ∧ x < 7 := by
  intro x hx
  unfold lnK at hx
  split at hx
  · exact h x (List.mem_filter.1 hx).1
  · split at hx
    · exact h x hx
    · rcases List.mem_append.1 hx with hx | hx
      · exact h x hx
      · simp at hx; subst hx; exact hk
theorem hoL_rng (l : List Int) (w : List Bool) : ∀ i, ∀ x ∈ hoL l w i, 0 ≤ x ∧ x < 7
  | 0 => by simp [hoL]
  | i + 1 => lnK_rng (hoL_rng l w i) (hoK_rng l i)
theorem lnK_len (L : List Int) (k : Int) (w : Bool) : (lnK L k w).length ≤ L.length + 1 := by
  unfold lnK
  split
  · have := List.length_filter_le (fun a => decide (a ≠ k)) L; unfold rstI; omega
  · split <;> simp
theorem hoL_len (l : List Int) (w : List Bool) : ∀ i, (hoL l w i).length ≤ i
  | 0 => Nat.le_refl _
  | i + 1 => by have := lnK_len (hoL l w i) (hoK l i) (w.getD i false); have := hoL_len l w i; rw [hoL]; omega
theorem mem_dip {L : List Int} {k : Int} (h : ∀ x ∈ L, 0 ≤ x ∧ x < 7) (hk : 0 ≤ k ∧ k < 7) : dipN true k ∈ L.map (dipN true) ↔ k ∈ L := by
  rw [List.mem_map]
  constructor
  · rintro ⟨a, ha, e⟩
    have := h a ha
    rwa [← ((dipN_inj (by omega) (by omega)).1 e).2]
  · exact fun h => ⟨k, h, rfl⟩
theorem hoL_eq (l : List Int) (w : List Bool) : ∀ i, (hoS l w i).l = (hoL l w i).map (dipN true)
  | 0 => rfl
  | i + 1 => by
    have hr := hoL_rng l w i
    have hk := hoK_rng l i
    rw [hoS, lst_tel (hoS_ok l w i), hoL_eq l w i, hoL]
    unfold lstS lnK
    rw [if_neg (by rw [dipN_ok]; simp)]
    cases w.getD i false
    · rw [if_neg (show ¬ (false = true) by decide), if_neg (show ¬ (false = true) by decide)]
      unfold hadI
      by_cases h : hoK l i ∈ hoL l w i
      · rw [if_pos ((mem_dip hr hk).2 h), if_pos (decide_eq_true h)]
      · rw [if_neg (fun c => h ((mem_dip hr hk).1 c)), if_neg (by simpa using h)]; simp
    · rw [if_pos rfl, if_pos rfl, List.filter_map]
      congr 1
      unfold rstI
      apply List.filter_congr
      intro a ha
      have := hr a ha
      simp only [Function.comp, decide_eq_decide]
      exact not_congr ((dipN_inj (by omega) (by omega)).trans ⟨fun h => h.2, fun h => ⟨rfl, h⟩⟩)
noncomputable def hoH (l : List Int) (w : List Bool) (S : HS) (L : List Int) : AHeap := hHO (intL l) (w.map AV.bool) (esG S.G) S.c S.l.length S.z (rowD S.l S.z) (intL L)
noncomputable def hoS1 (l : List Int) (w : List Bool) (mo : Int) (i : Nat) : List AV × AHeap := (vHO1 mo l.length w.length (hoL l w i).length i, hoH l w (hoS l w i) (hoL l w i))

theorem intL_cell (L : List Int) : (intL L).all AV.isCell = true := by simp [List.all_map, AV.isCell]

theorem stepHOW {S : HS} {l L : List Int} {ws : List Bool} {mo : Int} {i : Nat} {w : Bool} {k : Int} (H : HOk 1000 S) (hf : S.f = 3) (hl : l.length ≤ 50) (hws : l.length ≤ ws.length) (hi : i < l.length) (hk : hoK l i = k) (hwi : ws.getD i false = w) (hL : L.length ≤ 1000) (hw : w = true) :
    ∃ vs1 h1, qround Try.prog tHO 100 4 [(50, .bool true), (70, .bool false), (93, .bool true)] lsHO HO1 mHO1 (vHO1 mo l.length ws.length L.length i) (hoH l ws S L) = some (.norm, vs1, h1) ∧ Gc 4 vs1 h1 (vHO1 mo l.length ws.length (rstI L k).length ((i + 1 : Nat) : Int)) (hoH l ws (telS S (dipN true k) w) (rstI L k)) := by
  have e0 : 0 + (i : Int).toNat * 1 = i := by omega
  have e5 := wrap1 (i := i) (by omega)
  have eL : (intL l)[i]? = some (.int .i64 (l.getD i 0)) := get_ints hi
  have eW : (ws.map AV.bool)[i]? = some (.bool w) := by rw [get_bools (by omega), hwi]
  have ek : l.getD i 0 % 7 = k := hk
  have hq : List.take (L.length * 1) (intL L) = intL L := List.take_of_length_le (by simp)
  have eR : rowOf (hHO1W0 (intL l) (ws.map AV.bool) (esG S.G) S.c S.l.length S.z (rowD S.l S.z) (intL L) mo l.length ws.length L.length i) (.sl (some (5, 0)) L.length 0 false) = intL L := hq
  have u0 := unS_eq S
  have T0 := telOk (S := S) (d := dipN true k) (H.up (by omega))
  rw [u0, dipOf_eq, hf] at T0
  rw [hf] at u0
  have hE : telE (dipN true k) = 0 := by unfold telE; rw [dipN_ok]; rfl
  have H1 := tel_ok H (dipN true k) w
  have LS : LSays bHO2 7 [AV.sl (some (0, 0)) l.length 0 false, AV.sl (some (1, 0)) ws.length 0 false, AV.int IntKind.i64 mo, AV.ptr (some (3, 0)), AV.sl (some (5, 0)) L.length 0 false, AV.int IntKind.i64 i, AV.int IntKind.i64 k, AV.sl none 0 0 true, AV.bool false, AV.int IntKind.i64 0]
      (hHO1W0 (intL l) (ws.map AV.bool) (esG S.G) S.c S.l.length S.z (rowD S.l S.z) (intL L) mo l.length ws.length L.length i) (.exit 2) (vHO2 mo l.length ws.length L.length (rstI L k).length i k L.length (hadI L k)) (hHO1W0 (intL l) (ws.map AV.bool) (esG S.G) S.c S.l.length S.z (rowD S.l S.z) (intL L) mo l.length ws.length L.length i ++ [.cells (intL (rstI L k)) 1 .own none]) := by
    have := saysHO2 (B0 := .cells (intL l) 1 .far none) (B1 := .cells (ws.map AV.bool) 1 .far none) (B2 := .mp (esG (telS S (dipN true k) w).G) (telS S (dipN true k) w).c true) (B3 := .cells [.int .i64 3, .map (some 2), .sl (some (6, 0)) (telS S (dipN true k) w).l.length (telS S (dipN true k) w).z false] 3 .own none) (B4 := .dead) (B6 := .cells (rowD (telS S (dipN true k) w).l (telS S (dipN true k) w).z) 18 .own none)
      (okU_free (frees_ints _) (by simp)) (okU_free (frees_bools _) (by simp)) (gd_free H1.gd) ⟨rfl, by simp⟩ trivial (okU_free (rowD_frees _ _) (by simp)) (l := L) (n := l.length) (m := ws.length) (mo := mo) (i := i) (x := k) hL
    unfold hHO1W0
    simp only [e0, eL, eW, show ∀ x, intV (some (AV.int IntKind.i64 x)) = x from fun _ => rfl, show ∀ x, boolV (some (AV.bool x)) = x from fun _ => rfl, ek, opq_eq, cellsN, dipOf_eq, u0, hE]
    exact this
  have eH : hHO1W1 (intL l) (ws.map AV.bool) (esG S.G) S.c S.l.length S.z (rowD S.l S.z) (intL L) mo l.length ws.length L.length i = hHO1W0 (intL l) (ws.map AV.bool) (esG S.G) S.c S.l.length S.z (rowD S.l S.z) (intL L) mo l.length ws.length L.length i ++ [.cells (intL (rstI L k)) 1 .own none] := by
    have e : hHO1W1 (intL l) (ws.map AV.bool) (esG S.G) S.c S.l.length S.z (rowD S.l S.z) (intL L) mo l.length ws.length L.length i = hHO1W0 (intL l) (ws.map AV.bool) (esG S.G) S.c S.l.length S.z (rowD S.l S.z) (intL L) mo l.length ws.length L.length i ++ [.cells (opq (rstF (rowOf (hHO1W0 (intL l) (ws.map AV.bool) (esG S.G) S.c S.l.length S.z (rowD S.l S.z) (intL L) mo l.length ws.length L.length i) (.sl (some (5, 0)) L.length 0 false)) (intV (intL l)[0 + (i : Int).toNat * 1]? % 7))) 1 .own none] := rfl
    rw [e]
    simp only [e0, eL, eW, show ∀ x, intV (some (AV.int IntKind.i64 x)) = x from fun _ => rfl, show ∀ x, boolV (some (AV.bool x)) = x from fun _ => rfl, ek, opq_eq, cellsN, dipOf_eq, u0, hE, eR, rstF_eq]
  have row : qround Try.prog tHO 100 4 [(50, .bool true), (70, .bool false), (93, .bool true)] lsHO HO1 mHO1 (vHO1 mo l.length ws.length L.length i) (hoH l ws S L) = some (.norm, [AV.sl (some (0, 0)) l.length 0 false, AV.sl (some (1, 0)) ws.length 0 false, AV.int IntKind.i64 mo, AV.ptr (some (3, 0)), .sl (some (7, 0)) (rstI L k).length 0 false, AV.int IntKind.i64 ((i + 1 : Nat) : Int)], hHO1W1 (intL l) (ws.map AV.bool) (esG S.G) S.c S.l.length S.z (rowD S.l S.z) (intL L) mo l.length ws.length L.length i) := by
    refine (nfHO1W ..).trans ?_
    simp only [e0, eL, eW, show ∀ x, intV (some (AV.int IntKind.i64 x)) = x from fun _ => rfl, show ∀ x, boolV (some (AV.bool x)) = x from fun _ => rfl, ek, opq_eq, cellsN, dipOf_eq, u0, hE, e5, eR, rstF_eq, hadF_eq, List.length_map, Nat.zero_add]
    refine (if_pos (by simp; omega)).trans ?_
    refine (if_pos (by omega)).trans ?_
    refine (if_pos rfl).trans ?_
    refine (if_pos (by omega)).trans ?_
    refine (if_pos rfl).trans ?_
    refine (if_pos (cdec_true.2 ⟨by decide, by decide, by decide, T0⟩)).trans ?_
    refine (if_pos rfl).trans ?_
    refine (if_pos (AV.beq_self _)).trans ?_
    refine (if_pos (by decide)).trans ?_
    refine (if_pos (cdec_true.2 (by rw [eH]; exact LS))).trans ?_
    refine (if_pos (by omega)).trans ?_
    refine (if_pos rfl).trans ?_
    refine (if_pos (by rw [hw])).trans ?_
    rfl
  refine ⟨_, _, row, ?_⟩
  rw [eH]
  unfold hHO1W0
  simp only [e0, eL, eW, show ∀ x, intV (some (AV.int IntKind.i64 x)) = x from fun _ => rfl, show ∀ x, boolV (some (AV.bool x)) = x from fun _ => rfl, ek, opq_eq, cellsN, dipOf_eq, u0, hE]
  unfold hoH
  exact Gc.by [0, 1, 2, 3, 6, 7] rfl (by decide) (.cons _ _ _ _ (.sl _ _ _ _ _ _ rfl) (.cons _ _ _ _ (.sl _ _ _ _ _ _ rfl) (.cons _ _ _ _ (.free _ rfl) (.cons _ _ _ _ (.ptr _ _ _ rfl) (.cons _ _ _ _ (.sl _ _ _ _ _ _ rfl) (.free _ rfl))))))
    (.cons _ _ _ _ _ rfl (.row (frees_ints _) (by simp)) (.cons _ _ _ _ _ rfl (.row (frees_bools _) (by simp)) (.cons _ _ _ _ _ rfl (.mp _ _ _ _ _ (.free _ (gd_free H1.gd))) (.cons _ _ _ _ _ rfl (.cells _ _ _ _ _ _ (.cons _ _ _ _ (.free _ rfl) (.cons _ _ _ _ (.map _ _ rfl) (.cons _ _ _ _ (.sl _ _ _ _ _ _ rfl) .nil))) (by simp)) (.cons _ _ _ _ _ rfl (.row (rowD_frees _ _) (by simp)) (.cons _ _ _ _ _ rfl (.row (frees_ints _) (by simp)) .nil))))))

theorem stepHON {S : HS} {l L : List Int} {ws : List Bool} {mo : Int} {i : Nat} {w : Bool} {k : Int} (H : HOk 1000 S) (hf : S.f = 3) (hl : l.length ≤ 50) (hws : l.length ≤ ws.length) (hi : i < l.length) (hk : hoK l i = k) (hwi : ws.getD i false = w) (hL : L.length ≤ 1000) (hw : w = false) (hh : hadI L k = false) :
    ∃ vs1 h1, qround Try.prog tHO 100 4 [(50, .bool true), (70, .bool false), (93, .bool false), (96, .bool true)] lsHO HO1 mHO1 (vHO1 mo l.length ws.length L.length i) (hoH l ws S L) = some (.norm, vs1, h1) ∧ Gc 4 vs1 h1 (vHO1 mo l.length ws.length (L ++ [k]).length ((i + 1 : Nat) : Int)) (hoH l ws (telS S (dipN true k) w) (L ++ [k])) := by
  have e0 : 0 + (i : Int).toNat * 1 = i := by omega
  have e5 := wrap1 (i := i) (by omega)
  have eL : (intL l)[i]? = some (.int .i64 (l.getD i 0)) := get_ints hi
  have eW : (ws.map AV.bool)[i]? = some (.bool w) := by rw [get_bools (by omega), hwi]
  have ek : l.getD i 0 % 7 = k := hk
  have hq : List.take (L.length * 1) (intL L) = intL L := List.take_of_length_le (by simp)
  have eR : rowOf (hHO1N0 (intL l) (ws.map AV.bool) (esG S.G) S.c S.l.length S.z (rowD S.l S.z) (intL L) mo l.length ws.length L.length i) (.sl (some (5, 0)) L.length 0 false) = intL L := hq
  have u0 := unS_eq S
  have T0 := telOk (S := S) (d := dipN true k) (H.up (by omega))
  rw [u0, dipOf_eq, hf] at T0
  rw [hf] at u0
  have hE : telE (dipN true k) = 0 := by unfold telE; rw [dipN_ok]; rfl
  have H1 := tel_ok H (dipN true k) w
  have LS : LSays bHO2 7 [AV.sl (some (0, 0)) l.length 0 false, AV.sl (some (1, 0)) ws.length 0 false, AV.int IntKind.i64 mo, AV.ptr (some (3, 0)), AV.sl (some (5, 0)) L.length 0 false, AV.int IntKind.i64 i, AV.int IntKind.i64 k, AV.sl none 0 0 true, AV.bool false, AV.int IntKind.i64 0]
      (hHO1N0 (intL l) (ws.map AV.bool) (esG S.G) S.c S.l.length S.z (rowD S.l S.z) (intL L) mo l.length ws.length L.length i) (.exit 2) (vHO2 mo l.length ws.length L.length (rstI L k).length i k L.length (hadI L k)) (hHO1N0 (intL l) (ws.map AV.bool) (esG S.G) S.c S.l.length S.z (rowD S.l S.z) (intL L) mo l.length ws.length L.length i ++ [.cells (intL (rstI L k)) 1 .own none]) := by
    have := saysHO2 (B0 := .cells (intL l) 1 .far none) (B1 := .cells (ws.map AV.bool) 1 .far none) (B2 := .mp (esG (telS S (dipN true k) w).G) (telS S (dipN true k) w).c true) (B3 := .cells [.int .i64 3, .map (some 2), .sl (some (6, 0)) (telS S (dipN true k) w).l.length (telS S (dipN true k) w).z false] 3 .own none) (B4 := .dead) (B6 := .cells (rowD (telS S (dipN true k) w).l (telS S (dipN true k) w).z) 18 .own none)
      (okU_free (frees_ints _) (by simp)) (okU_free (frees_bools _) (by simp)) (gd_free H1.gd) ⟨rfl, by simp⟩ trivial (okU_free (rowD_frees _ _) (by simp)) (l := L) (n := l.length) (m := ws.length) (mo := mo) (i := i) (x := k) hL
    unfold hHO1N0
    simp only [e0, eL, eW, show ∀ x, intV (some (AV.int IntKind.i64 x)) = x from fun _ => rfl, show ∀ x, boolV (some (AV.bool x)) = x from fun _ => rfl, ek, opq_eq, cellsN, dipOf_eq, u0, hE]
    exact this
  rw [hh] at LS
  have eH : hHO1N1 (intL l) (ws.map AV.bool) (esG S.G) S.c S.l.length S.z (rowD S.l S.z) (intL L) mo l.length ws.length L.length i = hHO1N0 (intL l) (ws.map AV.bool) (esG S.G) S.c S.l.length S.z (rowD S.l S.z) (intL L) mo l.length ws.length L.length i ++ [.cells (intL (rstI L k)) 1 .own none] := by
    have e : hHO1N1 (intL l) (ws.map AV.bool) (esG S.G) S.c S.l.length S.z (rowD S.l S.z) (intL L) mo l.length ws.length L.length i = hHO1N0 (intL l) (ws.map AV.bool) (esG S.G) S.c S.l.length S.z (rowD S.l S.z) (intL L) mo l.length ws.length L.length i ++ [.cells (opq (rstF (rowOf (hHO1N0 (intL l) (ws.map AV.bool) (esG S.G) S.c S.l.length S.z (rowD S.l S.z) (intL L) mo l.length ws.length L.length i) (.sl (some (5, 0)) L.length 0 false)) (intV (intL l)[0 + (i : Int).toNat * 1]? % 7))) 1 .own none] := rfl
    rw [e]
    simp only [e0, eL, eW, show ∀ x, intV (some (AV.int IntKind.i64 x)) = x from fun _ => rfl, show ∀ x, boolV (some (AV.bool x)) = x from fun _ => rfl, ek, opq_eq, cellsN, dipOf_eq, u0, hE, eR, rstF_eq]
  have row : qround Try.prog tHO 100 4 [(50, .bool true), (70, .bool false), (93, .bool false), (96, .bool true)] lsHO HO1 mHO1 (vHO1 mo l.length ws.length L.length i) (hoH l ws S L) = some (.norm, [AV.sl (some (0, 0)) l.length 0 false, AV.sl (some (1, 0)) ws.length 0 false, AV.int IntKind.i64 mo, AV.ptr (some (3, 0)), .sl (some (11, 0)) (L.length + 1) 0 false, AV.int IntKind.i64 ((i + 1 : Nat) : Int)], hHO1N2 (intL l) (ws.map AV.bool) (esG S.G) S.c S.l.length S.z (rowD S.l S.z) (intL L) mo l.length ws.length L.length i) := by
    refine (nfHO1N ..).trans ?_
    simp only [e0, eL, eW, show ∀ x, intV (some (AV.int IntKind.i64 x)) = x from fun _ => rfl, show ∀ x, boolV (some (AV.bool x)) = x from fun _ => rfl, ek, opq_eq, cellsN, dipOf_eq, u0, hE, e5, eR, rstF_eq, hadF_eq, List.length_map, Nat.zero_add, hh]
    refine (if_pos (by simp; omega)).trans ?_
    refine (if_pos (by omega)).trans ?_
    refine (if_pos rfl).trans ?_
    refine (if_pos (by omega)).trans ?_
    refine (if_pos rfl).trans ?_
    refine (if_pos (cdec_true.2 ⟨by decide, by decide, by decide, T0⟩)).trans ?_
    refine (if_pos rfl).trans ?_
    refine (if_pos (AV.beq_self _)).trans ?_
    refine (if_pos (by decide)).trans ?_
    refine (if_pos (cdec_true.2 (by rw [eH]; exact LS))).trans ?_
    refine (if_pos (by omega)).trans ?_
    refine (if_pos rfl).trans ?_
    refine (if_pos (by rw [hw])).trans ?_
    refine (if_pos (by trivial)).trans ?_
    refine (if_pos (by omega)).trans ?_
    refine (if_pos ⟨by omega, by trivial, by omega⟩).trans ?_
    refine (if_pos ⟨by trivial, by trivial, .inr (by trivial), by trivial, by rw [hq]; exact intL_cell L⟩).trans ?_
    refine (if_pos ⟨by omega, by trivial, by omega⟩).trans ?_
    refine (if_pos (by rw [hq, List.length_map]; omega)).trans ?_
    refine (if_pos ⟨by trivial, by rw [hq, List.length_map]; omega, .inl (by decide), by trivial, rfl⟩).trans ?_
    rfl
  refine ⟨_, _, row, ?_⟩
  unfold hHO1N2
  simp only [e0, eL, eW, show ∀ x, intV (some (AV.int IntKind.i64 x)) = x from fun _ => rfl, show ∀ x, boolV (some (AV.bool x)) = x from fun _ => rfl, ek, opq_eq, cellsN, dipOf_eq, u0, hE, hq, Nat.zero_add]
  rw [show intL L ++ [AV.int IntKind.i64 k] = intL (L ++ [k]) by simp, show L.length + 1 = (L ++ [k]).length by simp]
  unfold hoH
  exact Gc.by [0, 1, 2, 3, 6, 11] rfl (by decide) (.cons _ _ _ _ (.sl _ _ _ _ _ _ rfl) (.cons _ _ _ _ (.sl _ _ _ _ _ _ rfl) (.cons _ _ _ _ (.free _ rfl) (.cons _ _ _ _ (.ptr _ _ _ rfl) (.cons _ _ _ _ (.sl _ _ _ _ _ _ rfl) (.free _ rfl))))))
    (.cons _ _ _ _ _ rfl (.row (frees_ints _) (by simp)) (.cons _ _ _ _ _ rfl (.row (frees_bools _) (by simp)) (.cons _ _ _ _ _ rfl (.mp _ _ _ _ _ (.free _ (gd_free H1.gd))) (.cons _ _ _ _ _ rfl (.cells _ _ _ _ _ _ (.cons _ _ _ _ (.free _ rfl) (.cons _ _ _ _ (.map _ _ rfl) (.cons _ _ _ _ (.sl _ _ _ _ _ _ rfl) .nil))) (by simp)) (.cons _ _ _ _ _ rfl (.row (rowD_frees _ _) (by simp)) (.cons _ _ _ _ _ rfl (BR.grown (frees_ints _) rfl) .nil))))))

theorem stepHOH {S : HS} {l L : List Int} {ws : List Bool} {mo : Int} {i : Nat} {w : Bool} {k : Int} (H : HOk 1000 S) (hf : S.f = 3) (hl : l.length ≤ 50) (hws : l.length ≤ ws.length) (hi : i < l.length) (hk : hoK l i = k) (hwi : ws.getD i false = w) (hL : L.length ≤ 1000) (hw : w = false) (hh : hadI L k = true) :
    ∃ vs1 h1, qround Try.prog tHO 100 4 [(50, .bool true), (70, .bool false), (93, .bool false), (96, .bool false)] lsHO HO1 mHO1 (vHO1 mo l.length ws.length L.length i) (hoH l ws S L) = some (.norm, vs1, h1) ∧ Gc 4 vs1 h1 (vHO1 mo l.length ws.length (L).length ((i + 1 : Nat) : Int)) (hoH l ws (telS S (dipN true k) w) (L)) := by
  have e0 : 0 + (i : Int).toNat * 1 = i := by omega
  have e5 := wrap1 (i := i) (by omega)
  have eL : (intL l)[i]? = some (.int .i64 (l.getD i 0)) := get_ints hi
  have eW : (ws.map AV.bool)[i]? = some (.bool w) := by rw [get_bools (by omega), hwi]
  have ek : l.getD i 0 % 7 = k := hk
  have hq : List.take (L.length * 1) (intL L) = intL L := List.take_of_length_le (by simp)
  have eR : rowOf (hHO1H0 (intL l) (ws.map AV.bool) (esG S.G) S.c S.l.length S.z (rowD S.l S.z) (intL L) mo l.length ws.length L.length i) (.sl (some (5, 0)) L.length 0 false) = intL L := hq
  have u0 := unS_eq S
  have T0 := telOk (S := S) (d := dipN true k) (H.up (by omega))
  rw [u0, dipOf_eq, hf] at T0
  rw [hf] at u0
  have hE : telE (dipN true k) = 0 := by unfold telE; rw [dipN_ok]; rfl
  have H1 := tel_ok H (dipN true k) w
  have LS : LSays bHO2 7 [AV.sl (some (0, 0)) l.length 0 false, AV.sl (some (1, 0)) ws.length 0 false, AV.int IntKind.i64 mo, AV.ptr (some (3, 0)), AV.sl (some (5, 0)) L.length 0 false, AV.int IntKind.i64 i, AV.int IntKind.i64 k, AV.sl none 0 0 true, AV.bool false, AV.int IntKind.i64 0]
      (hHO1H0 (intL l) (ws.map AV.bool) (esG S.G) S.c S.l.length S.z (rowD S.l S.z) (intL L) mo l.length ws.length L.length i) (.exit 2) (vHO2 mo l.length ws.length L.length (rstI L k).length i k L.length (hadI L k)) (hHO1H0 (intL l) (ws.map AV.bool) (esG S.G) S.c S.l.length S.z (rowD S.l S.z) (intL L) mo l.length ws.length L.length i ++ [.cells (intL (rstI L k)) 1 .own none]) := by
    have := saysHO2 (B0 := .cells (intL l) 1 .far none) (B1 := .cells (ws.map AV.bool) 1 .far none) (B2 := .mp (esG (telS S (dipN true k) w).G) (telS S (dipN true k) w).c true) (B3 := .cells [.int .i64 3, .map (some 2), .sl (some (6, 0)) (telS S (dipN true k) w).l.length (telS S (dipN true k) w).z false] 3 .own none) (B4 := .dead) (B6 := .cells (rowD (telS S (dipN true k) w).l (telS S (dipN true k) w).z) 18 .own none)
      (okU_free (frees_ints _) (by simp)) (okU_free (frees_bools _) (by simp)) (gd_free H1.gd) ⟨rfl, by simp⟩ trivial (okU_free (rowD_frees _ _) (by simp)) (l := L) (n := l.length) (m := ws.length) (mo := mo) (i := i) (x := k) hL
    unfold hHO1H0
    simp only [e0, eL, eW, show ∀ x, intV (some (AV.int IntKind.i64 x)) = x from fun _ => rfl, show ∀ x, boolV (some (AV.bool x)) = x from fun _ => rfl, ek, opq_eq, cellsN, dipOf_eq, u0, hE]
    exact this
  rw [hh] at LS
  have eH : hHO1H1 (intL l) (ws.map AV.bool) (esG S.G) S.c S.l.length S.z (rowD S.l S.z) (intL L) mo l.length ws.length L.length i = hHO1H0 (intL l) (ws.map AV.bool) (esG S.G) S.c S.l.length S.z (rowD S.l S.z) (intL L) mo l.length ws.length L.length i ++ [.cells (intL (rstI L k)) 1 .own none] := by
    have e : hHO1H1 (intL l) (ws.map AV.bool) (esG S.G) S.c S.l.length S.z (rowD S.l S.z) (intL L) mo l.length ws.length L.length i = hHO1H0 (intL l) (ws.map AV.bool) (esG S.G) S.c S.l.length S.z (rowD S.l S.z) (intL L) mo l.length ws.length L.length i ++ [.cells (opq (rstF (rowOf (hHO1H0 (intL l) (ws.map AV.bool) (esG S.G) S.c S.l.length S.z (rowD S.l S.z) (intL L) mo l.length ws.length L.length i) (.sl (some (5, 0)) L.length 0 false)) (intV (intL l)[0 + (i : Int).toNat * 1]? % 7))) 1 .own none] := rfl
    rw [e]
    simp only [e0, eL, eW, show ∀ x, intV (some (AV.int IntKind.i64 x)) = x from fun _ => rfl, show ∀ x, boolV (some (AV.bool x)) = x from fun _ => rfl, ek, opq_eq, cellsN, dipOf_eq, u0, hE, eR, rstF_eq]
  have row : qround Try.prog tHO 100 4 [(50, .bool true), (70, .bool false), (93, .bool false), (96, .bool false)] lsHO HO1 mHO1 (vHO1 mo l.length ws.length L.length i) (hoH l ws S L) = some (.norm, [AV.sl (some (0, 0)) l.length 0 false, AV.sl (some (1, 0)) ws.length 0 false, AV.int IntKind.i64 mo, AV.ptr (some (3, 0)), .sl (some (5, 0)) L.length 0 false, AV.int IntKind.i64 ((i + 1 : Nat) : Int)], hHO1H1 (intL l) (ws.map AV.bool) (esG S.G) S.c S.l.length S.z (rowD S.l S.z) (intL L) mo l.length ws.length L.length i) := by
    refine (nfHO1H ..).trans ?_
    simp only [e0, eL, eW, show ∀ x, intV (some (AV.int IntKind.i64 x)) = x from fun _ => rfl, show ∀ x, boolV (some (AV.bool x)) = x from fun _ => rfl, ek, opq_eq, cellsN, dipOf_eq, u0, hE, e5, eR, rstF_eq, hadF_eq, List.length_map, Nat.zero_add, hh]
    refine (if_pos (by simp; omega)).trans ?_
    refine (if_pos (by omega)).trans ?_
    refine (if_pos rfl).trans ?_
    refine (if_pos (by omega)).trans ?_
    refine (if_pos rfl).trans ?_
    refine (if_pos (cdec_true.2 ⟨by decide, by decide, by decide, T0⟩)).trans ?_
    refine (if_pos rfl).trans ?_
    refine (if_pos (AV.beq_self _)).trans ?_
    refine (if_pos (by decide)).trans ?_
    refine (if_pos (cdec_true.2 (by rw [eH]; exact LS))).trans ?_
    refine (if_pos (by omega)).trans ?_
    refine (if_pos rfl).trans ?_
    refine (if_pos (by rw [hw])).trans ?_
    refine (if_pos (by trivial)).trans ?_
    rfl
  refine ⟨_, _, row, ?_⟩
  rw [eH]
  unfold hHO1H0
  simp only [e0, eL, eW, show ∀ x, intV (some (AV.int IntKind.i64 x)) = x from fun _ => rfl, show ∀ x, boolV (some (AV.bool x)) = x from fun _ => rfl, ek, opq_eq, cellsN, dipOf_eq, u0, hE]
  unfold hoH
  exact Gc.by [0, 1, 2, 3, 6, 5] rfl (by decide) (.cons _ _ _ _ (.sl _ _ _ _ _ _ rfl) (.cons _ _ _ _ (.sl _ _ _ _ _ _ rfl) (.cons _ _ _ _ (.free _ rfl) (.cons _ _ _ _ (.ptr _ _ _ rfl) (.cons _ _ _ _ (.sl _ _ _ _ _ _ rfl) (.free _ rfl))))))
    (.cons _ _ _ _ _ rfl (.row (frees_ints _) (by simp)) (.cons _ _ _ _ _ rfl (.row (frees_bools _) (by simp)) (.cons _ _ _ _ _ rfl (.mp _ _ _ _ _ (.free _ (gd_free H1.gd))) (.cons _ _ _ _ _ rfl (.cells _ _ _ _ _ _ (.cons _ _ _ _ (.free _ rfl) (.cons _ _ _ _ (.map _ _ rfl) (.cons _ _ _ _ (.sl _ _ _ _ _ _ rfl) .nil))) (by simp)) (.cons _ _ _ _ _ rfl (.row (rowD_frees _ _) (by simp)) (.cons _ _ _ _ _ rfl (.row (frees_ints _) (by simp)) .nil))))))

theorem itI_at {S : HS} : ∀ {P : List DipC} {i : Nat} (h : i < P.length), ((itI S P).drop (i * 19)).take 19 = illC P[i] (cntS S P[i])
  | [], _, h => by simp at h
  | d :: P, 0, _ => by
    show List.take 19 (illC d (cntS S d) ++ itI S P) = _
    exact List.take_left' (by simp)
  | d :: P, i + 1, h => by
    have := itI_at (S := S) (P := P) (i := i) (by simpa using h)
    show List.take 19 (List.drop ((i + 1) * 19) (illC d (cntS S d) ++ itI S P)) = _
    rw [show (i + 1) * 19 = (illC d (cntS S d)).length + i * 19 by rw [illC_length]; omega, ← List.drop_drop, List.drop_left]
    exact this
theorem it18 {S : HS} {P : List DipC} {i : Nat} (h : i < P.length) : ((itI S P).drop (i * 19)).take 18 = P[i].cells := by
  have e : ((itI S P).drop (i * 19)).take 18 = (((itI S P).drop (i * 19)).take 19).take 18 := by rw [List.take_take]; rfl
  rw [e, itI_at h]
  exact List.take_left' (by simp)
theorem itN {S : HS} {P : List DipC} {i : Nat} (h : i < P.length) : (itI S P)[i * 19 + 18]? = some (.int .i64 (cntS S P[i])) := by
  have e : (itI S P)[i * 19 + 18]? = (((itI S P).drop (i * 19)).take 19)[18]? := by rw [List.getElem?_take, if_pos (by omega), List.getElem?_drop]
  rw [e, itI_at h]
  unfold illC
  rw [List.getElem?_append_right (by simp)]
  simp

theorem stepHO3 {S : HS} {C E : List AV} {L : List Int} {b i : Nat} (H : HOk 1000 S) (hf : S.f = 3) (hS : S.l = L.map (dipN true)) (hL : L.length ≤ 1000) (hb : b ≤ S.l.length) (hi : i < L.length) :
    ∃ pr X, qround Try.prog tHO 100 4 pr noT HO3 mHO3 (vHO3 L.length S.l.length b i) (hHO3 C E (esG S.G) S.c S.l.length S.z (rowD S.l S.z) (intL L) (itI S S.l) (itI S (S.l.take b))) = some (.norm, vHO3 L.length S.l.length b ((i + 1 : Nat) : Int), hHO3 C E (esG S.G) S.c S.l.length S.z (rowD S.l S.z) (intL L) (itI S S.l) (itI S (S.l.take b)) ++ X) := by
  have e5 := wrap1 (i := i) (by omega)
  have e0 : 0 + (i : Int).toNat * 1 = i := by omega
  have e1 : 0 + (i : Int).toNat * 19 + 0 = i * 19 := by omega
  have e2 : 0 + (i : Int).toNat * 19 = i * 19 := by omega
  have hlen : S.l.length = L.length := by rw [hS, List.length_map]
  have hi' : i < S.l.length := by omega
  have eD : S.l[i] = dipN true (L.getD i 0) := by
    simp [hS, List.getD, List.getElem?_eq_getElem hi]
  have eL : (intL L)[i]? = some (.int .i64 (L.getD i 0)) := get_ints hi
  have x18 := it18 (S := S) hi'
  have x19 := itI_at (S := S) hi'
  have xN := itN (S := S) hi'
  have hc : 1 ≤ cntS S S.l[i] := by
    have h1 := (H.mem S.l[i]).1 (List.getElem_mem hi')
    have h2 := (H.cnt S.l[i]).1
    omega
  have u0 := unS_eq S
  have T0 := telOk (S := S) (d := S.l[i]) (H.up (by omega))
  rw [u0, dipOf_eq, hf] at T0
  rw [hf] at u0
  rw [eD] at x18 x19 xN hc T0
  by_cases hib : i < b
  · have hy : i < (S.l.take b).length := by rw [List.length_take]; omega
    have y19 := itI_at (S := S) hy
    rw [List.getElem_take, eD] at y19
    refine ⟨_, [], (nfHO3t ..).trans ?_⟩
    simp only [e2, Nat.add_zero, e0, eL, show ∀ x, intV (some (AV.int IntKind.i64 x)) = x from fun _ => rfl, x18, x19, y19, xN, opq_eq, cellsN, dipOf_eq, u0, e5]
    generalize cntS S (dipN true (L.getD i 0)) = v at *
    generalize L.getD i 0 = k at *
    repeat (first | (refine (if_pos ?_).trans ?_; · first | rfl | exact AV.beq_self _ | exact Nat.le_refl _ | omega | exact cdec_true.2 ⟨by decide, by decide, by decide, T0⟩ | (rw [itI_length]; omega) | (rw [itI_length, List.length_take]; omega) | (simp; done) | (simp; omega)) | (refine (if_neg ?_).trans ?_; · first | (simp; done) | (simp; omega)))
    rfl
  · refine ⟨_, [], (nfHO3f ..).trans ?_⟩
    simp only [e2, Nat.add_zero, e0, eL, show ∀ x, intV (some (AV.int IntKind.i64 x)) = x from fun _ => rfl, x18, x19, xN, opq_eq, cellsN, dipOf_eq, u0, e5]
    generalize cntS S (dipN true (L.getD i 0)) = v at *
    generalize L.getD i 0 = k at *
    repeat (first | (refine (if_pos ?_).trans ?_; · first | rfl | exact AV.beq_self _ | exact Nat.le_refl _ | omega | exact cdec_true.2 ⟨by decide, by decide, by decide, T0⟩ | (rw [itI_length]; omega) | (rw [itI_length, List.length_take]; omega) | (simp; done) | (simp; omega)) | (refine (if_neg ?_).trans ?_; · first | (simp; done) | (simp; omega)))
    rfl

theorem runHealthOrder (l : List Int) (w : List Bool) (mo : Int) (hl0 : ∀ x ∈ l, (Lit.int .i64 x).wf = true) (_ : w.length ≤ maxLen) (hmo : -9223372036854775808 ≤ mo ∧ mo < 9223372036854775808) : ∃ h', Runs Try.prog 6 [.sl (some (0, 0)) l.length 0 false, .sl (some (1, 0)) w.length 0 false, .int .i64 mo] [.cells (l.map (AV.int .i64)) 1 .far none, .cells (w.map AV.bool) 1 .far none] (.bool true) h' := by
  by_cases hb : 50 < l.length ∨ w.length < l.length ∨ 60 < w.length
  · refine Runs.valT0 tHOOk (F := 100) (n := 4) (pr := [(35, .bool true)]) ((nfHOl mo l.length w.length _ _ _).trans ?_)
    by_cases h1 : 50 < l.length
    · exact if_pos (by simp; omega)
    refine (if_neg (by simp; omega)).trans ?_
    by_cases h2 : w.length < l.length
    · exact if_pos (by simp; omega)
    refine (if_neg (by simp; omega)).trans ?_
    exact if_pos (by simp; omega)
  have hl : l.length ≤ 50 := by omega
  have ok := (hoS_ok l w l.length).up (show l.length ≤ 1000 by omega)
  have hf := hoS_f l w l.length
  have hS := hoL_eq l w l.length
  have hLL := hoL_len l w l.length
  have hlen : (hoS l w l.length).l.length = (hoL l w l.length).length := by rw [hS, List.length_map]
  obtain ⟨b0, hb0⟩ : ∃ b : Nat, mo % 8 = b := ⟨(mo % 8).toNat, by omega⟩
  have hbn : cntA (hoS l w l.length).l.length (mo % 8) = min b0 (hoL l w l.length).length := by
    unfold cntA; rw [hb0, hlen, if_neg (by omega)]; rfl
  have k1 : True → ∃ vs2 h2, Pre 4 (vHO1z mo l.length w.length 0) (hHOz (intL l) (w.map AV.bool)) vs2 h2 ∧ ∃ k, GReach (roundG Try.prog (deepT Try.prog tHO 100 4) (lsT lsHO) HO1 mHO1) 4 k vs2 h2 (.exit 0) (vHO1 mo l.length w.length (hoL l w l.length).length l.length) (hoH l w (hoS l w l.length) (hoL l w l.length)) := by
    intro _
    refine ⟨(hoS1 l w mo 0).1, (hoS1 l w mo 0).2, ?_, ?_⟩
    · refine .gc _ _ (vHO1z mo l.length w.length 0) [.cells (intL l) 1 .far none, .cells (w.map AV.bool) 1 .far none, .mp [] 0 true, .cells [.int .i64 3, .map (some 2), .sl none 0 0 true] 3 .own none] _ _ (Gc.by [0, 1, 2, 3] rfl (by decide) (.cons _ _ _ _ (.sl _ _ _ _ _ _ rfl) (.cons _ _ _ _ (.sl _ _ _ _ _ _ rfl) (.cons _ _ _ _ (.free _ rfl) (.cons _ _ _ _ (.ptr _ _ _ rfl) (.free _ rfl)))))
        (.cons _ _ _ _ _ rfl (.row (frees_ints _) (by simp)) (.cons _ _ _ _ _ rfl (.row (frees_bools _) (by simp)) (.cons _ _ _ _ _ rfl (.mp _ _ _ _ _ .nil) (.cons _ _ _ _ _ rfl (.cells _ _ _ _ _ _ (.cons _ _ _ _ (.free _ rfl) (.cons _ _ _ _ (.map _ _ rfl) (.free _ rfl))) (by simp)) .nil))))) ?_
      refine .void 18 _ _ _ _ _ _ (NRs.refl _) (.cons _ _ _ _ (.same _) (.cons _ _ _ _ (.same _) (.cons _ _ _ _ (.same _) (.cons _ _ _ _ (.cells _ _ _ _ _ (.same _ _ _ (.same _ _ _ (.void _ _ _ .nil)))) (.cons _ _ _ _ (.same _) .nil))))) ?_
      exact Pre.nil1 1 (.same _ _ _ (.same _ _ _ (.same _ _ _ (.same _ _ _ (.void _ _ _ (NRs.refl _)))))) rfl
    · refine loop_T (hoS1 l w mo) (N := l.length) (by simp) (fun i hi => ?_) ⟨[(50, .bool false)], _, _, (nfHO1s ..).trans (if_pos (by simp)), Gc.refl⟩
      have oki := (hoS_ok l w i).up (show i ≤ 1000 by omega)
      have hfi := hoS_f l w i
      have hLi : (hoL l w i).length ≤ 1000 := by have := hoL_len l w i; omega
      have e1 : hoL l w (i + 1) = lnK (hoL l w i) (hoK l i) (w.getD i false) := rfl
      unfold hoS1
      rw [e1, show hoS l w (i + 1) = telS (hoS l w i) (dipN true (hoK l i)) (w.getD i false) from rfl]
      cases hw : w.getD i false
      · cases hh : hadI (hoL l w i) (hoK l i)
        · have e2 : lnK (hoL l w i) (hoK l i) false = hoL l w i ++ [hoK l i] := by unfold lnK; rw [hh]; rfl
          rw [e2]
          exact ⟨_, stepHON oki hfi hl (by omega) hi rfl hw hLi rfl hh⟩
        · have e2 : lnK (hoL l w i) (hoK l i) false = hoL l w i := by unfold lnK; rw [hh]; rfl
          rw [e2]
          exact ⟨_, stepHOH oki hfi hl (by omega) hi rfl hw hLi rfl hh⟩
      · have e2 : lnK (hoL l w i) (hoK l i) true = rstI (hoL l w i) (hoK l i) := rfl
        rw [e2]
        exact ⟨_, stepHOW oki hfi hl (by omega) hi rfl hw hLi rfl⟩
  generalize hSe : hoS l w l.length = S at *
  generalize hLe : hoL l w l.length = L at *
  have u0 := unS_eq S
  rw [hf] at u0
  have k2 : True → ∃ vs2 h2, Pre 8 (vHO3 L.length S.l.length (min b0 L.length) 0) (hHO3 (intL l) (w.map AV.bool) (esG S.G) S.c S.l.length S.z (rowD S.l S.z) (intL L) (itI S S.l) (itI S (S.l.take (min b0 L.length)))) vs2 h2 ∧ ∃ k, GReach (roundG Try.prog (deepT Try.prog tHO 100 4) (lsT noT) HO3 mHO3) 8 k vs2 h2 (.exit 4) (vHO3 L.length S.l.length (min b0 L.length) L.length) (hHO3 (intL l) (w.map AV.bool) (esG S.G) S.c S.l.length S.z (rowD S.l S.z) (intL L) (itI S S.l) (itI S (S.l.take (min b0 L.length)))) := by
    intro _
    refine ⟨_, _, .done _ _, ?_⟩
    refine loop_T (fun i => (vHO3 L.length S.l.length (min b0 L.length) i, hHO3 (intL l) (w.map AV.bool) (esG S.G) S.c S.l.length S.z (rowD S.l S.z) (intL L) (itI S S.l) (itI S (S.l.take (min b0 L.length))))) (N := L.length) (by simp) (fun i hi => ?_) ⟨[(127, .bool false)], _, _, (nfHO3s ..).trans (if_pos (by simp)), Gc.refl⟩
    obtain ⟨pr, X, hX⟩ := stepHO3 (C := intL l) (E := w.map AV.bool) (b := min b0 L.length) ok hf hS (by omega) (by omega) hi
    refine ⟨pr, _, _, hX, Gc.drop 8 rfl rfl ?_⟩
    intro b hb
    simp only [hHO3, hHO, List.cons_append, List.nil_append, List.mem_cons, List.not_mem_nil, or_false] at hb
    rcases hb with rfl | rfl | rfl | rfl | rfl | rfl | rfl | rfl
    · exact okU_free (frees_ints _) (by simp)
    · exact okU_free (frees_bools _) (by simp)
    · exact gd_free ok.gd
    · exact ⟨rfl, by simp⟩
    · exact okU_free (rowD_frees _ _) (by simp)
    · exact okU_free (frees_ints _) (by simp)
    · exact okU_free (itI_frees _ _) (by simp)
    · exact okU_free (itI_frees _ _) (by simp)
  have lp : loopsOf (bodyOf Try.prog 6) = [HO1, HO3] := by kernel_rfl
  have A1 := allOk (S := S) (mo := -1) (ok.up (by omega)) (by omega)
  have A2 := allOk (S := S) (mo := mo % 8) (ok.up (by omega)) (by omega)
  rw [unS_eq, hf] at A1 A2
  have c1 : cntA S.l.length (-1) = S.l.length := by unfold cntA; rw [if_pos (by omega)]
  refine Runs.valT tHOOk (F := 100) (n := 4) (pr := [(35, .bool false), (46, .bool false), (123, .bool false)]) (both (k := 8) (k2 := 31) lp (by kernel_rfl) (by kernel_rfl) (by decide) (fixP_T tHOOk (F := 100) (n := 4) (LS := lsHO) lsHOOk k1) (fixP_T tHOOk (F := 100) (n := 4) (LS := noT) (noLoops (by kernel_rfl)) k2)) ?_
  refine (nfHOm True True mo _ _ _ _ _ _ _ _ _ _ l.length w.length _ _ _ _).trans ?_
  simp only [u0, opq_eq, c1, hbn]
  refine (if_neg (by simp; omega)).trans ?_
  refine (if_neg (by simp; omega)).trans ?_
  refine (if_pos (by simp; omega)).trans ?_
  refine (if_pos (cdec_true.2 ⟨trivial, by first | trivial | rfl, by first | trivial | rfl⟩)).trans ?_
  refine (if_pos (cdec_true.2 ⟨by decide, by decide, by decide, A1⟩)).trans ?_
  refine (if_pos (cdec_true.2 ⟨by decide, by decide, by decide, A2⟩)).trans ?_
  refine (if_neg (by simp; omega)).trans ?_
  refine (if_pos (by rw [hb0]; simp; omega)).trans ?_
  refine if_pos (cdec_true.2 ⟨trivial, by first | trivial | rfl, ?_⟩)
  unfold hHOm1 hHOm2
  simp only [u0, opq_eq, c1, hbn, List.take_length]


end Go.Proofs.Ytpghomcohejejaa.L
