/- HealthMany's run. -/
import Derived.Test.YtpghomcohejejaaHealthManyN
set_option autoImplicit false
set_option maxRecDepth 100000
set_option linter.unusedVariables false
set_option linter.unusedSimpArgs false
namespace Go.Proofs.Ytpghomcohejejaa.L
open Go Go.Abs

def hmK (z : List Int) (i : Nat) : Nat := (z.getD i 0 % 8).toNat
theorem hmK_lt (z : List Int) (i : Nat) : hmK z i < 8 := by unfold hmK; omega
theorem hmK_eq (z : List Int) (i : Nat) : z.getD i 0 % 8 = (hmK z i : Int) := by unfold hmK; omega
noncomputable def hmS (f : Int) (z : List Int) : Nat → HS
  | 0 => newS f
  | i + 1 => telS (hmS f z i) (dipN false (hmK z i)) false
def hmN (z : List Int) : Nat → List Int
  | 0 => List.replicate 8 0
  | i + 1 => (hmN z i).set (hmK z i) ((hmN z i).getD (hmK z i) 0 + 1)
theorem hmS_f (f : Int) (z : List Int) : ∀ i, (hmS f z i).f = f
  | 0 => rfl
  | i + 1 => by rw [hmS, telS_f, hmS_f f z i]
theorem hmN_len (z : List Int) : ∀ i, (hmN z i).length = 8
  | 0 => rfl
  | i + 1 => by rw [hmN, List.length_set, hmN_len z i]
theorem hmS_ok (f : Int) (z : List Int) : ∀ i, HOk i (hmS f z i)
  | 0 => newS_ok f
  | i + 1 => tel_ok (hmS_ok f z i) _ _
theorem hmN_get (z : List Int) (i k : Nat) : (hmN z (i + 1)).getD k 0 = if hmK z i = k then (hmN z i).getD (hmK z i) 0 + 1 else (hmN z i).getD k 0 := by
  have hk := hmK_lt z i
  have hl := hmN_len z i
  rw [hmN]
  simp only [List.getD, List.getElem?_set]
  by_cases h : hmK z i = k
  · subst h; rw [if_pos rfl, if_pos (by omega), if_pos rfl]; rfl
  · rw [if_neg h, if_neg h]
theorem hm_cnt (f : Int) (z : List Int) : ∀ i, (∀ k : Nat, k < 8 → cntS (hmS f z i) (dipN false k) = (hmN z i).getD k 0) ∧ (∀ k : Nat, k < 8 → cntS (hmS f z i) (dipN true k) = 0) ∧ (hmS f z i).l.length = (hmN z i).countP (fun x => decide (0 < x))
  | 0 => ⟨fun k hk => by show (0 : Int) = (List.replicate 8 (0 : Int)).getD k 0; simp only [List.getD, List.getElem?_replicate, if_pos hk]; rfl, fun k hk => by simp [hmS, newS, cntS, valG_nil], by simp [hmS, newS, hmN, List.countP_replicate]⟩
  | i + 1 => by
    obtain ⟨h1, h2, h3⟩ := hm_cnt f z i
    have ok := hmS_ok f z i
    have hk := hmK_lt z i
    have hl := hmN_len z i
    have hd : (dipN false (hmK z i)).ok = true := dipN_ok _ _
    have inj : ∀ (v : Bool) (k : Nat), k < 8 → (dipN v k = dipN false (hmK z i) ↔ v = false ∧ k = hmK z i) := fun v k h => by
      rw [dipN_inj (by omega) (by omega)]
      constructor
      · rintro ⟨a, b⟩; exact ⟨a, by omega⟩
      · rintro ⟨a, b⟩; exact ⟨a, by omega⟩
    have hg := hmN_get z i
    refine ⟨fun k hk8 => ?_, fun k hk8 => ?_, ?_⟩
    · rw [hmS, cnt_tel ok, hg]
      by_cases h : hmK z i = k
      · subst h; rw [if_pos ⟨hd, rfl⟩, if_pos rfl, if_neg (by simp), h1 _ hk]
      · rw [if_neg h, if_neg (fun c => h ((inj false k hk8).1 c.2).2.symm), h1 k hk8]
    · rw [hmS, cnt_tel ok, if_neg (fun c => by have := ((inj true k hk8).1 c.2).1; simp at this), h2 k hk8]
    · have hm := ok.mem (dipN false (hmK z i))
      rw [h1 _ hk] at hm
      have h0 := (ok.cnt (dipN false (hmK z i))).1
      rw [h1 _ hk] at h0
      have e : (hmN z i).getD (hmK z i) 0 = (hmN z i)[hmK z i]'(by omega) := by simp [List.getD, List.getElem?_eq_getElem (show hmK z i < (hmN z i).length by omega)]
      rw [hmS, lst_tel ok, hmN, List.countP_set (by omega), ← e]
      unfold lstS
      rw [if_neg (by rw [hd]; simp), if_neg (by simp)]
      generalize hv : (hmN z i).getD (hmK z i) 0 = v at *
      by_cases hz : v = 0
      · rw [if_neg (fun c => hm.1 c hz), hz]
        simp [h3]
      · rw [if_pos (hm.2 hz), h3]
        have : 0 < (hmN z i).countP (fun x => decide (0 < x)) := List.countP_pos_iff.2 ⟨_, List.getElem_mem (show hmK z i < (hmN z i).length by omega), by rw [← e]; exact decide_eq_true (by omega)⟩
        rw [if_pos (decide_eq_true (by omega)), if_pos (decide_eq_true (by omega))]
        omega

noncomputable def hmH (S : HS) (z N : List Int) : AHeap := hHM S.f (z.map (AV.int .i64)) (esG S.G) S.c S.l.length S.z (N.map (AV.int .i64)) (rowD S.l S.z)
noncomputable def hmSt (f : Int) (z : List Int) (i : Nat) : List AV × AHeap := (vHM1 (hmS f z i).f z.length i, hmH (hmS f z i) z (hmN z i))

theorem stepHM {f : Int} {z : List Int} {i : Nat} (hz : z.length ≤ 80) (hi : i < z.length) :
    ∃ vs1 h1, qround Try.prog tHM 100 4 [(40, .bool true), (70, .bool false)] noT HL1 mHM1 (hmSt f z i).1 (hmSt f z i).2 = some (.norm, vs1, h1) ∧ Gc 4 vs1 h1 (hmSt f z (i + 1)).1 (hmSt f z (i + 1)).2 := by
  have ok := hmS_ok f z i
  obtain ⟨c1, _, _⟩ := hm_cnt f z i
  have hk := hmK_lt z i
  have hl := hmN_len z i
  have e0 : 0 + (i : Int).toNat * 1 = i := by omega
  have e1 : 0 + ((hmK z i : Nat) : Int).toNat * 1 = hmK z i := by omega
  have e5 := wrap1 (i := i) (by omega)
  have eN : ((hmN z i).map (AV.int .i64))[hmK z i]? = some (.int .i64 ((hmN z i).getD (hmK z i) 0)) := get_ints (by omega)
  have hb := (ok.cnt (dipN false (hmK z i)))
  have hc := c1 _ hk
  rw [hc] at hb
  have e6 : IntKind.i64.wrap ((hmN z i).getD (hmK z i) 0 + 1) = (hmN z i).getD (hmK z i) 0 + 1 := wrapI64 (by omega)
  have eP : putCells ((hmN z i).map (AV.int .i64)) (hmK z i) [AV.int .i64 ((hmN z i).getD (hmK z i) 0 + 1)] = (hmN z (i + 1)).map (AV.int .i64) := by simp [putCells, hmN, List.map_set]
  have eN' : ((hmN z (i + 1)).map (AV.int .i64))[hmK z i]? = some (.int .i64 ((hmN z i).getD (hmK z i) 0 + 1)) := by
    rw [get_ints (by rw [hmN_len]; omega), hmN_get, if_pos rfl]
  have hd : telD (hmS f z i) (dipN false (hmK z i)) false = ((hmN z i).getD (hmK z i) 0 + 1 == (hmS f z i).f) := by
    unfold telD; rw [dipN_ok, hc]; rfl
  have hE : telE (dipN false (hmK z i)) = 0 := by unfold telE; rw [dipN_ok]; rfl
  have T := telOk (S := hmS f z i) (d := dipN false (hmK z i)) (ok.up (by omega))
  rw [unS_eq, dipOf_eq] at T
  have eF : (hmS f z (i + 1)).f = (hmS f z i).f := by rw [hmS_f, hmS_f]
  have eL : (hmS f z (i + 1)) = telS (hmS f z i) (dipN false (hmK z i)) false := rfl
  have row : qround Try.prog tHM 100 4 [(40, .bool true), (70, .bool false)] noT HL1 mHM1 (hmSt f z i).1 (hmSt f z i).2 = some (.norm, vHM1 (hmS f z i).f z.length ((i + 1 : Nat) : Int), hHM10 (hmS f z i).f (z.map (AV.int .i64)) (esG (hmS f z i).G) (hmS f z i).c (hmS f z i).l.length (hmS f z i).z ((hmN z i).map (AV.int .i64)) (rowD (hmS f z i).l (hmS f z i).z) z.length i) := by
    refine (nfHM1 ..).trans ?_
    simp only [e0, get_ints hi, show ∀ x, intV (some (AV.int IntKind.i64 x)) = x from fun _ => rfl, hmK_eq, e1, eN, e6, eP, eN', e5, opq_eq, cellsN, dipOf_eq, unS_eq, hd, hE]
    refine (if_pos (by simp; omega)).trans ?_
    refine (if_pos (by omega)).trans ?_
    refine (if_pos rfl).trans ?_
    refine (if_pos (by omega)).trans ?_
    refine (if_pos rfl).trans ?_
    refine (if_pos (by omega)).trans ?_
    refine (if_pos ⟨by simp; omega, rfl⟩).trans ?_
    refine (if_pos (cdec_true.2 ⟨by decide, by decide, by decide, T⟩)).trans ?_
    refine (if_neg (by decide)).trans ?_
    refine (if_pos (by omega)).trans ?_
    refine (if_pos rfl).trans ?_
    exact (if_pos (by simp)).trans rfl
  refine ⟨_, _, row, ?_⟩
  unfold hHM10
  simp only [e0, get_ints hi, show ∀ x, intV (some (AV.int IntKind.i64 x)) = x from fun _ => rfl, hmK_eq, e1, eN, e6, eP, opq_eq, cellsN, dipOf_eq, unS_eq]
  unfold hmSt hmH
  rw [← eL, eF]
  exact Gc.by [0, 1, 2, 3, 5] rfl (by decide) (.cons _ _ _ _ (.free _ rfl) (.cons _ _ _ _ (.sl _ _ _ _ _ _ rfl) (.cons _ _ _ _ (.ptr _ _ _ rfl) (.cons _ _ _ _ (.ptr _ _ _ rfl) (.free _ rfl)))))
    (.cons _ _ _ _ _ rfl (.row (frees_ints _) (by simp)) (.cons _ _ _ _ _ rfl (.mp _ _ _ _ _ (.free _ (gd_free (hmS_ok f z (i + 1)).gd))) (.cons _ _ _ _ _ rfl (.cells _ _ _ _ _ _ (.cons _ _ _ _ (.free _ rfl) (.cons _ _ _ _ (.map _ _ rfl) (.cons _ _ _ _ (.sl _ _ _ _ _ _ rfl) .nil))) (by simp)) (.cons _ _ _ _ _ rfl (.row (frees_ints _) (by simp)) (.cons _ _ _ _ _ rfl (.row (rowD_frees _ _) (by simp)) .nil)))))

def cpS (N : List Int) (k : Nat) : Nat := (N.take k).countP (fun x => decide (0 < x))
theorem cpS_succ {N : List Int} {k : Nat} (hk : k < N.length) : cpS N (k + 1) = cpS N k + if 0 < N.getD k 0 then 1 else 0 := by
  unfold cpS
  rw [List.take_succ_eq_append_getElem hk, List.countP_append]
  congr 1
  rw [show N.getD k 0 = N[k] by simp [List.getD, List.getElem?_eq_getElem hk]]
  by_cases h : 0 < N[k] <;> simp [h]
theorem stepHM2 {f : Int} {z : List Int} {k : Nat} (hz : z.length ≤ 80) (hk : k < 8) :
    ∃ pr vs1 h1, qround Try.prog tHM 100 4 pr noT HL2 mHM2 (vHM2 (hmS f z z.length).f (cpS (hmN z z.length) k) k) (hmH (hmS f z z.length) z (hmN z z.length)) = some (.norm, vs1, h1) ∧ Gc 5 vs1 h1 (vHM2 (hmS f z z.length).f (cpS (hmN z z.length) (k + 1)) ((k + 1 : Nat) : Int)) (hmH (hmS f z z.length) z (hmN z z.length)) := by
  have ok := hmS_ok f z z.length
  obtain ⟨c1, c2, _⟩ := hm_cnt f z z.length
  have hl := hmN_len z z.length
  have c1 := c1 k hk
  have c2 := c2 k hk
  have e1 : 0 + (k : Int).toNat * 1 = k := by omega
  have e5 := wrap1 (i := k) (by omega)
  have hcp : cpS (hmN z z.length) k ≤ 8 := by
    unfold cpS
    have h1 := List.countP_le_length (p := fun x : Int => decide (0 < x)) (l := (hmN z z.length).take k)
    rw [List.length_take] at h1; omega
  have e6 := wrap1 (i := cpS (hmN z z.length) k) (by omega)
  have eN : ((hmN z z.length).map (AV.int .i64))[k]? = some (.int .i64 ((hmN z z.length).getD k 0)) := get_ints (by omega)
  have T1 := telOk (S := hmS f z z.length) (d := dipN false k) (ok.up (by omega))
  have T2 := telOk (S := hmS f z z.length) (d := dipN true k) (ok.up (by omega))
  rw [unS_eq, dipOf_eq] at T1 T2
  have es := cpS_succ (N := hmN z z.length) (k := k) (by omega)
  generalize (hmN z z.length).getD k 0 = v at *
  by_cases h : 0 < v
  · rw [if_pos h] at es
    rw [es]
    refine ⟨_, _, _, (nfHM2t ..).trans ?_, .inl ⟨rfl, rfl⟩⟩
    simp only [e1, eN, show ∀ x, intV (some (AV.int IntKind.i64 x)) = x from fun _ => rfl, opq_eq, cellsN, dipOf_eq, unS_eq, c1, c2, e5, e6]
    refine (if_pos (by simp; omega)).trans ?_
    refine (if_pos (cdec_true.2 ⟨by decide, by decide, by decide, T1⟩)).trans ?_
    refine (if_pos (by omega)).trans ?_
    refine (if_pos rfl).trans ?_
    refine (if_neg (by simp)).trans ?_
    refine (if_pos (cdec_true.2 ⟨by decide, by decide, by decide, T1⟩)).trans ?_
    refine (if_pos (by omega)).trans ?_
    refine (if_pos rfl).trans ?_
    refine (if_neg (by simp)).trans ?_
    refine (if_pos (cdec_true.2 ⟨by decide, by decide, by decide, T2⟩)).trans ?_
    refine (if_pos (by decide)).trans ?_
    iterate 4 (refine (if_pos rfl).trans ?_; refine (if_pos (AV.beq_self _)).trans ?_)
    refine (if_pos (by omega)).trans ?_
    refine (if_pos rfl).trans ?_
    exact (if_pos (by simp; omega)).trans rfl
  · rw [if_neg h, Nat.add_zero] at es
    rw [es]
    refine ⟨_, _, _, (nfHM2f ..).trans ?_, .inl ⟨rfl, rfl⟩⟩
    simp only [e1, eN, show ∀ x, intV (some (AV.int IntKind.i64 x)) = x from fun _ => rfl, opq_eq, cellsN, dipOf_eq, unS_eq, c1, c2, e5]
    refine (if_pos (by simp; omega)).trans ?_
    refine (if_pos (cdec_true.2 ⟨by decide, by decide, by decide, T1⟩)).trans ?_
    refine (if_pos (by omega)).trans ?_
    refine (if_pos rfl).trans ?_
    refine (if_neg (by simp)).trans ?_
    refine (if_pos (cdec_true.2 ⟨by decide, by decide, by decide, T1⟩)).trans ?_
    refine (if_pos (by omega)).trans ?_
    refine (if_pos rfl).trans ?_
    refine (if_neg (by simp)).trans ?_
    refine (if_pos (cdec_true.2 ⟨by decide, by decide, by decide, T2⟩)).trans ?_
    refine (if_pos (by decide)).trans ?_
    iterate 4 (refine (if_pos rfl).trans ?_; refine (if_pos (AV.beq_self _)).trans ?_)
    refine (if_pos (by omega)).trans ?_
    refine (if_pos rfl).trans ?_
    exact (if_pos (by simp; omega)).trans rfl

theorem runHealthMany (f : Int) (z : List Int) (hf : -9223372036854775808 ≤ f ∧ f < 9223372036854775808) (hz0 : ∀ x ∈ z, (Lit.int .i64 x).wf = true) : ∃ h', Runs Try.prog 5 [.int .i64 f, .sl (some (0, 0)) z.length 0 false] [.cells (z.map (AV.int .i64)) 1 .far none] (.bool true) h' := by
  by_cases hb : f < 1 ∨ 10 < f ∨ 80 < z.length
  · refine Runs.valT0 tHMOk (F := 100) (n := 4) (pr := [(24, .bool true)]) ((nfHMl f z.length _ _).trans ?_)
    by_cases h1 : f < 1
    · exact if_pos (by simp; omega)
    refine (if_neg (by simp; omega)).trans ?_
    by_cases h2 : 10 < f
    · exact if_pos (by simp; omega)
    refine (if_neg (by simp; omega)).trans ?_
    exact if_pos (by simp; omega)
  have hz : z.length ≤ 80 := by omega
  have hS : (hmS f z z.length).f = f := hmS_f f z _
  have ok := hmS_ok f z z.length
  obtain ⟨_, _, c3⟩ := hm_cnt f z z.length
  have hN := hmN_len z z.length
  have k1 : True → ∃ vs2 h2, Pre 4 (vHM1 f z.length 0) (hHMz f (z.map (AV.int .i64)) n8z) vs2 h2 ∧ ∃ k, GReach (roundG Try.prog (deepT Try.prog tHM 100 4) (lsT noT) HL1 mHM1) 4 k vs2 h2 (.exit 0) (vHM1 f z.length z.length) (hmH (hmS f z z.length) z (hmN z z.length)) := by
    intro _
    refine ⟨(hmSt f z 0).1, (hmSt f z 0).2, ?_, ?_⟩
    · refine .gc _ _ (vHM1 f z.length 0) [.cells (z.map (AV.int .i64)) 1 .far none, .mp [] 0 true, .cells [.int .i64 f, .map (some 1), .sl none 0 0 true] 3 .own none, .cells n8z 8 .own none] _ _ (Gc.by [0, 1, 2, 3] rfl (by decide) (.cons _ _ _ _ (.free _ rfl) (.cons _ _ _ _ (.sl _ _ _ _ _ _ rfl) (.cons _ _ _ _ (.ptr _ _ _ rfl) (.cons _ _ _ _ (.ptr _ _ _ rfl) (.free _ rfl)))))
        (.cons _ _ _ _ _ rfl (.row (frees_ints _) (by simp)) (.cons _ _ _ _ _ rfl (.mp _ _ _ _ _ .nil) (.cons _ _ _ _ _ rfl (.cells _ _ _ _ _ _ (.cons _ _ _ _ (.free _ rfl) (.cons _ _ _ _ (.map _ _ rfl) (.free _ rfl))) (by simp)) (.cons _ _ _ _ _ rfl (.row rfl (by simp)) .nil))))) ?_
      exact .void 18 _ _ _ _ _ _ (NRs.refl _) (.cons _ _ _ _ (.same _) (.cons _ _ _ _ (.same _) (.cons _ _ _ _ (.cells _ _ _ _ _ (.same _ _ _ (.same _ _ _ (.void _ _ _ .nil)))) (.cons _ _ _ _ (.same _) (.cons _ _ _ _ (.same _) .nil))))) (.done _ _)
    · rw [show vHM1 f z.length z.length = (hmSt f z z.length).1 by unfold hmSt; rw [hS]]
      refine loop_T (hmSt f z) (N := z.length) (by simp) (fun i hi => ⟨_, stepHM hz hi⟩) ⟨[(40, .bool false)], _, _, (nfHM1s ..).trans (if_pos (by simp)), Gc.refl⟩
  have k2 : True → ∃ vs2 h2, Pre 5 (vHM2 f 0 0) (hmH (hmS f z z.length) z (hmN z z.length)) vs2 h2 ∧ ∃ k, GReach (roundG Try.prog (deepT Try.prog tHM 100 4) (lsT noT) HL2 mHM2) 5 k vs2 h2 (.exit 2) (vHM2 f (cpS (hmN z z.length) 8) 8) (hmH (hmS f z z.length) z (hmN z z.length)) := by
    intro _
    have h2 : ∀ k, qround Try.prog tHM 100 4 [(72, .bool false)] noT HL2 mHM2 (vHM2 (hmS f z z.length).f k 8) (hmH (hmS f z z.length) z (hmN z z.length)) = some (.exit 2, vHM2 (hmS f z z.length).f k 8, hmH (hmS f z z.length) z (hmN z z.length)) := fun k => (nfHM2s ..).trans (if_pos (by decide))
    have := loop_T (fun k => (vHM2 (hmS f z z.length).f (cpS (hmN z z.length) k) k, hmH (hmS f z z.length) z (hmN z z.length))) (N := 8) (e := .exit 2) (by simp) (fun k hk => stepHM2 hz hk) ⟨_, _, _, h2 _, Gc.refl⟩
    rw [hS] at this
    exact ⟨_, _, .done _ _, this⟩
  have lp : loopsOf (bodyOf Try.prog 5) = [HL1, HL2] := by kernel_rfl
  have A := allOk (S := hmS f z z.length) (mo := -1) (ok.up (by omega)) (by omega)
  rw [unS_eq] at A
  have eh : hmH (hmS f z z.length) z (hmN z z.length) = hHM f (z.map (AV.int .i64)) (esG (hmS f z z.length).G) (hmS f z z.length).c (hmS f z z.length).l.length (hmS f z z.length).z ((hmN z z.length).map (AV.int .i64)) (rowD (hmS f z z.length).l (hmS f z z.length).z) := by unfold hmH; rw [hS]
  rw [eh] at k1 k2
  refine Runs.valT tHMOk (F := 100) (n := 4) (pr := [(24, .bool false), (36, .bool false)]) (both (k := 8) (k2 := 17) lp (by kernel_rfl) (by kernel_rfl) (by decide) (fixP_T tHMOk (F := 100) (n := 4) (LS := noT) (noLoops (by kernel_rfl)) k1) (fixP_T tHMOk (F := 100) (n := 4) (LS := noT) (noLoops (by kernel_rfl)) k2)) ?_
  refine (nfHMm True True f _ _ _ _ _ _ _ z.length _ _).trans ?_
  have hu := unS_eq (hmS f z z.length)
  rw [hS] at hu A
  simp only [hu, opq_eq]
  have e9 : cpS (hmN z z.length) 8 = (hmS f z z.length).l.length := by unfold cpS; rw [c3, List.take_of_length_le (by omega)]
  refine (if_neg (by simp; omega)).trans ?_
  refine (if_neg (by simp; omega)).trans ?_
  refine (if_pos (by simp; omega)).trans ?_
  refine (if_neg (by simp; omega)).trans ?_
  refine (if_neg (by simp; omega)).trans ?_
  refine (if_pos (cdec_true.2 ⟨trivial, by first | trivial | rfl, by first | trivial | rfl⟩)).trans ?_
  refine (if_pos (cdec_true.2 ⟨trivial, by first | trivial | rfl, by first | trivial | rfl⟩)).trans ?_
  refine (if_pos (cdec_true.2 ⟨by decide, by decide, by decide, A⟩)).trans ?_
  exact if_pos (by rw [e9]; simp [cntA])

end Go.Proofs.Ytpghomcohejejaa.L
