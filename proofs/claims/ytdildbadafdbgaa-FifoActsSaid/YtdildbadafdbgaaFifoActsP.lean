/- FifoActs' run: queues, their keys; the loops within. -/
import Derived.Test.YtdildbadafdbgaaFifoActsM
set_option autoImplicit false
set_option maxRecDepth 100000
set_option linter.unusedVariables false
set_option linter.unusedSimpArgs false
namespace Go.Proofs.Ytdildbadafdbgaa.L
open Go Go.Abs

abbrev QS := FQ (List UInt8) Int
abbrev PS := List (List UInt8 × Int)
def Dist (P : PS) : Prop := P.Pairwise fun a b => a.1 ≠ b.1
theorem at_le {P : PS} {k : List UInt8} {j : Nat} (h : j < P.length) (hk : P[j].1 = k) : atIxsi P k ≤ j := by
  apply Nat.le_of_not_lt
  intro hl
  have := List.not_of_lt_findIdx (p := fun p : List UInt8 × Int => decide (p.1 = k)) (xs := P) hl
  simp [hk] at this
theorem at_key {P : PS} {k : List UInt8} (h : atIxsi P k < P.length) : P[atIxsi P k].1 = k :=
  of_decide_eq_true (List.findIdx_getElem (p := fun p : List UInt8 × Int => decide (p.1 = k)) (xs := P) (w := h))
theorem at_eq {P : PS} (hd : Dist P) {k : List UInt8} {j : Nat} (h : j < P.length) (hk : P[j].1 = k) : atIxsi P k = j := by
  have h1 := at_le h hk
  rcases Nat.lt_or_ge (atIxsi P k) j with h2 | h2
  · have := List.pairwise_iff_getElem.1 hd (atIxsi P k) j (by omega) h h2
    exact absurd ((at_key (by omega)).trans hk.symm) this
  · omega
theorem ix_at {P : PS} (hd : Dist P) {j : Nat} (h : j < P.length) : ixIxsi P P[j].1 = j := by
  unfold ixIxsi; rw [at_eq hd h rfl, if_pos h]
theorem ix_neg {P : PS} {k : List UInt8} : ixIxsi P k = -1 ∨ (atIxsi P k < P.length ∧ ixIxsi P k = atIxsi P k) := by
  unfold ixIxsi; split
  · exact .inr ⟨by assumption, rfl⟩
  · exact .inl rfl
def itW : Nat → PS → List AV
  | _, [] => []
  | f, p :: P => [.str p.1, .int .i64 p.2, .int .i64 f] ++ itW (f + 1) P
@[simp] theorem itW_length : ∀ (f : Nat) (P : PS), (itW f P).length = P.length * 3
  | _, [] => rfl
  | f, p :: P => by simp [itW, itW_length (f + 1) P]; omega
theorem itW_frees : ∀ (f : Nat) (P : PS), AV.frees (itW f P) = true
  | _, [] => rfl
  | f, p :: P => frees_append rfl (itW_frees (f + 1) P)
theorem itW_snoc : ∀ (f : Nat) (P : PS) (p : List UInt8 × Int), itW f (P ++ [p]) = itW f P ++ [.str p.1, .int .i64 p.2, .int .i64 ((f + P.length : Nat) : Int)]
  | _, [], p => rfl
  | f, q :: P, p => by
    simp only [List.cons_append, itW, itW_snoc (f + 1) P p, List.length_cons, List.append_assoc]
    rw [show f + 1 + P.length = f + (P.length + 1) by omega]
theorem itW_get : ∀ {P : PS} {f i : Nat} (h : i < P.length), (itW f P)[i * 3]? = some (.str P[i].1) ∧ (itW f P)[i * 3 + 1]? = some (.int .i64 P[i].2) ∧ (itW f P)[i * 3 + 2]? = some (.int .i64 ((f + i : Nat) : Int))
  | [], _, _, h => by simp at h
  | p :: P, f, 0, _ => ⟨rfl, rfl, rfl⟩
  | p :: P, f, i + 1, h => by
    have := itW_get (P := P) (f := f + 1) (i := i) (by simpa using h)
    have e : ∀ k, (itW f (p :: P))[k + 3]? = (itW (f + 1) P)[k]? := fun k => rfl
    rw [show (i + 1) * 3 = i * 3 + 3 by omega, show i * 3 + 3 + 1 = i * 3 + 1 + 3 by omega, show i * 3 + 3 + 2 = i * 3 + 2 + 3 by omega, e, e, e, show f + (i + 1) = f + 1 + i by omega]
    exact this
structure WOk (P : PS) (f ow : Nat) (D : List AV) : Prop where
  d : D.drop ow = itW f P
  n : ow + P.length * 3 = D.length
  f : AV.frees D = true
theorem WOk.get {P : PS} {f ow : Nat} {D : List AV} (h : WOk P f ow D) {i : Nat} (hi : i < P.length) : D[ow + i * 3]? = some (.str P[i].1) ∧ D[ow + i * 3 + 1]? = some (.int .i64 P[i].2) ∧ D[ow + i * 3 + 2]? = some (.int .i64 ((f + i : Nat) : Int)) := by
  have := itW_get (f := f) hi
  rw [← h.d] at this
  simp only [List.getElem?_drop] at this
  simpa [Nat.add_assoc] using this
theorem fl_get2 {P : PS} {i : Nat} (h : i < P.length) : (flS P)[i * 2 + 1]? = some (.int .i64 P[i].2) := by
  have := fl_at (ek := AV.str) (ev := AV.int .i64) h
  have e := congrArg (fun l => l[1]?) this
  simpa [List.getElem?_take, List.getElem?_drop] using e
theorem itC_get : ∀ {P : PS} {i : Nat} (h : i < P.length), (itC P)[i * 3]? = some (.str P[i].1) ∧ (itC P)[i * 3 + 1]? = some (.int .i64 P[i].2)
  | [], _, h => by simp at h
  | p :: P, 0, _ => ⟨rfl, rfl⟩
  | p :: P, i + 1, h => by
    have := itC_get (P := P) (i := i) (by simpa using h)
    have e : ∀ k, (itC (p :: P))[k + 3]? = (itC P)[k]? := fun k => rfl
    rw [show (i + 1) * 3 = i * 3 + 3 by omega, show i * 3 + 3 + 1 = i * 3 + 1 + 3 by omega, e, e]
    exact this
theorem okC {q : QS} (ok : q.Ok AV.str (AV.int .i64)) {i : Nat} (hi : i < q.P.length) : q.C[q.o + i * 2 + 1]? = some (.int .i64 q.P[i].2) := by
  have := fl_get2 hi
  have hd : flS q.P = q.C.drop q.o := ok.d.symm
  rw [hd, List.getElem?_drop] at this
  have e : q.o + i * 2 + 1 = q.o + (i * 2 + 1) := by omega
  rw [e]; exact this

def hadA (P : PS) (k : List UInt8) (j : Nat) : Int := if atIxsi P k < j then atIxsi P k else -1
theorem saysA1 {P : PS} {f ow : Nat} {D : List AV} (w : WOk P f ow D) (hd : Dist P) (hl : P.length ≤ 1000) (m x i : Int) (l : List Int) (k : List UInt8) (B0 B1 B2 B4 : ABlk) :
    LSays bFA1 5 (vFA1 m l ow P.length x i k (-1) 0) (hFA1 B0 B1 B2 B4 D) (.exit 2) (vFA1 m l ow P.length x i k (ixIxsi P k) P.length) (hFA1 B0 B1 B2 B4 D) := by
  have e0 : hadA P k 0 = -1 := by simp [hadA]
  have e1 : hadA P k P.length = ixIxsi P k := rfl
  refine .mk ?_
  rw [← e1]
  show ∃ k', GReach _ 5 k' (vFA1 m l ow P.length x i k (-1) ((0 : Nat) : Int)) _ _ _ _
  rw [← e0]
  refine loop_T (fun j => (vFA1 m l ow P.length x i k (hadA P k j) j, hFA1 B0 B1 B2 B4 D)) (N := P.length) (by simp) (fun j hj => ?_) ⟨_, _, _, (nfFBs m x i _ P.length l ow P.length k B0 B1 B2 B4 D).trans (if_pos (by simp)), Gc.refl⟩
  obtain ⟨g0, _, _⟩ := w.get hj
  have e5 : IntKind.i64.wrap ((j : Int) + 1) = ((j + 1 : Nat) : Int) := by rw [wrapI64 (by omega)]; omega
  have e6 : ow + (j : Int).toNat * 3 + 0 = ow + j * 3 := by omega
  by_cases hk : P[j].1 = k
  · have ha := at_eq hd hj hk
    have hh : hadA P k (j + 1) = j := by unfold hadA; rw [ha, if_pos (by omega)]
    refine ⟨[(125, .bool true), (134, .bool true)], vFA1 m l ow P.length x i k (hadA P k (j + 1)) ((j + 1 : Nat) : Int), hFA1 B0 B1 B2 B4 D, (nfFBy m x i _ j l ow P.length k B0 B1 B2 B4 D).trans ?_, Gc.refl⟩
    · rw [e6, g0, e5]
      refine (if_pos (by simp; omega)).trans ?_
      refine (if_pos (by omega)).trans ?_
      refine (if_pos rfl).trans ?_
      refine (if_pos (by simp [strV, hk])).trans ?_
      rw [hh]; rfl
  · have hh : hadA P k (j + 1) = hadA P k j := by
      unfold hadA
      by_cases ha : atIxsi P k < j
      · rw [if_pos ha, if_pos (by omega)]
      · rw [if_neg ha, if_neg]
        intro hc
        have : atIxsi P k = j := by omega
        have hlt : atIxsi P k < P.length := by omega
        have ec : ∀ (a : Nat) (ha : a < P.length), a = j → P[a].1 = P[j].1 := by rintro a ha rfl; rfl
        exact hk ((ec _ hlt this).symm.trans (at_key hlt))
    refine ⟨[(125, .bool true), (134, .bool false)], vFA1 m l ow P.length x i k (hadA P k (j + 1)) ((j + 1 : Nat) : Int), hFA1 B0 B1 B2 B4 D, (nfFBn m x i _ j l ow P.length k B0 B1 B2 B4 D).trans ?_, Gc.refl⟩
    · rw [e6, g0, e5]
      refine (if_pos (by simp; omega)).trans ?_
      refine (if_pos (by omega)).trans ?_
      refine (if_pos rfl).trans ?_
      refine (if_pos (by simp [strV, hk])).trans ?_
      rw [hh]; rfl

theorem saysA2a {q : QS} {f ow : Nat} {D : List AV} (ok : q.Ok AV.str (AV.int .i64)) (w : WOk q.P f ow D) (hd : Dist q.P) (hl : q.P.length ≤ 1000) (m x x2 i : Int) (l : List Int) (ny : Nat) (B0 B4 B5 B7 : ABlk) (hB : ∀ b ∈ (hFA2a B0 B4 B5 B7 m x q.o q.P.length q.C D (itC q.P)), b.okU 8) :
    LSays bFA2 8 (vFA2 m l 3 ow q.P.length x2 i 6 q.P.length ny 0) (hFA2a B0 B4 B5 B7 m x q.o q.P.length q.C D (itC q.P)) (.exit 5) (vFA2 m l 3 ow q.P.length x2 i 6 q.P.length ny q.P.length) (hFA2a B0 B4 B5 B7 m x q.o q.P.length q.C D (itC q.P)) := by
  refine .mk ?_
  refine loop_T (fun j => ((vFA2 m l 3 ow q.P.length x2 i 6 q.P.length ny j), (hFA2a B0 B4 B5 B7 m x q.o q.P.length q.C D (itC q.P)))) (N := q.P.length) (by simp) (fun j hj => ⟨[(228, .bool true), (277, .bool false)], (vFA2 m l 3 ow q.P.length x2 i 6 q.P.length ny ((j + 1 : Nat) : Int)), (hFA2a B0 B4 B5 B7 m x q.o q.P.length q.C D (itC q.P)) ++ [.cells [.str q.P[j].1] 1 .own none], ?_, Gc.drop 8 rfl rfl hB⟩) ⟨_, _, _, (nfFCas m x x2 i q.P.length l q.o ow q.P.length q.P.length ny B0 B4 B5 B7 q.C D (itC q.P)).trans (if_pos (by simp)), Gc.refl⟩
  obtain ⟨d0, d1, _⟩ := w.get hj
  obtain ⟨i0, i1⟩ := itC_get hj
  have e5 : IntKind.i64.wrap ((j : Int) + 1) = ((j + 1 : Nat) : Int) := by rw [wrapI64 (by omega)]; omega
  have x0 : ow + (j : Int).toNat * 3 + 0 = ow + j * 3 := by omega
  have x1 : ow + (j : Int).toNat * 3 + 1 = ow + j * 3 + 1 := by omega
  have x2' : 0 + (j : Int).toNat * 3 + 0 = j * 3 := by omega
  have x3 : 0 + (j : Int).toNat * 3 + 1 = j * 3 + 1 := by omega
  refine (nfFCa m x x2 i j l q.o ow q.P.length q.P.length ny B0 B4 B5 B7 q.C D (itC q.P)).trans ?_
  have hH : hFCa0 m x x2 i j l q.o ow q.P.length q.P.length ny B0 B4 B5 B7 q.C D (itC q.P) = (hFA2a B0 B4 B5 B7 m x q.o q.P.length q.C D (itC q.P)) ++ [.cells [.str q.P[j].1] 1 .own none] := by
    unfold hFCa0
    rw [x0, d0]; rfl
  have hr := ok.row (hp := hFCa0 m x x2 i j l q.o ow q.P.length q.P.length ny B0 B4 B5 B7 q.C D (itC q.P)) (k := 2) (md := .own) (par := none) (r := 0) (e := false) rfl
  have hI := RIxsi.mk q.P q.P[j].1 (hFCa0 m x x2 i j l q.o ow q.P.length q.P.length ny B0 B4 B5 B7 q.C D (itC q.P)) _ 8 .own none hr.1 hr.2 (by rw [hH]; rfl) (by omega) j (ix_at hd hj)
  have hc := cIxsi hI
  rw [x0, x1, x2', x3, e5]
  iterate 2 (refine (if_pos (by first | omega | (simp; done) | (simp [isIntV, isBoolV, isStrV, putCells, capOf]; done) | (simp; omega) | (simp [capOf]; omega))).trans ?_)
  refine (if_pos (by rw [d0]; rfl)).trans ?_
  refine (if_pos (cdec_true.2 (by rw [hc]; exact hI))).trans ?_
  refine (if_neg (by rw [hc]; simp)).trans ?_
  refine (if_pos (by rw [hc]; omega)).trans ?_
  refine (if_pos (by rw [hc, show q.o + (j : Int).toNat * 2 + 1 = q.o + j * 2 + 1 by omega, okC ok hj]; first | rfl | (simp [isIntV, intV, d1]; done) | (rw [d1]; simp [intV]))).trans ?_
  refine (if_pos (by first | omega | (simp; done) | (simp [isIntV, isBoolV, isStrV, putCells, capOf]; done) | (simp; omega) | (simp [capOf]; omega))).trans ?_
  refine (if_pos (by rw [i0]; rfl)).trans ?_
  refine (if_pos (by first | omega | (simp; done) | (simp [isIntV, isBoolV, isStrV, putCells, capOf]; done) | (simp; omega) | (simp [capOf]; omega))).trans ?_
  refine (if_pos (by rw [d0]; rfl)).trans ?_
  refine (if_neg (by rw [i0, d0]; simp [strV])).trans ?_
  refine (if_pos (by first | omega | (simp; done) | (simp [isIntV, isBoolV, isStrV, putCells, capOf]; done) | (simp; omega) | (simp [capOf]; omega))).trans ?_
  refine (if_pos (by rw [i1]; rfl)).trans ?_
  refine (if_pos (by first | omega | (simp; done) | (simp [isIntV, isBoolV, isStrV, putCells, capOf]; done) | (simp; omega) | (simp [capOf]; omega))).trans ?_
  refine (if_pos (by rw [d1]; rfl)).trans ?_
  refine (if_neg (by rw [i1, d1]; simp [intV])).trans ?_
  refine (if_pos (by first | omega | (simp; done) | (simp [isIntV, isBoolV, isStrV, putCells, capOf]; done) | (simp; omega) | (simp [capOf]; omega))).trans ?_
  refine (if_pos (by rw [d1]; rfl)).trans ?_
  refine (if_pos (by rw [hc, show q.o + (j : Int).toNat * 2 + 1 = q.o + j * 2 + 1 by omega, okC ok hj]; first | rfl | (simp [isIntV, intV, d1]; done) | (rw [d1]; simp [intV]))).trans ?_
  rw [hH]; rfl

theorem saysA2b {q : QS} {f ow : Nat} {D : List AV} (ok : q.Ok AV.str (AV.int .i64)) (w : WOk q.P f ow D) (hd : Dist q.P) (hl : q.P.length ≤ 1000) (m x x2 i : Int) (l : List Int) (ny : Nat) (B0 B2 B3 B4 B5 B6 B8 B9 B10 B13 : ABlk) (hB : ∀ b ∈ (hFA2b B0 B2 B3 B4 B5 B6 B8 B9 B10 B13 m x q.o q.P.length q.C D (itC q.P)), b.okU 14) :
    LSays bFA2 14 (vFA2 m l 11 ow q.P.length x2 i 12 q.P.length ny 0) (hFA2b B0 B2 B3 B4 B5 B6 B8 B9 B10 B13 m x q.o q.P.length q.C D (itC q.P)) (.exit 5) (vFA2 m l 11 ow q.P.length x2 i 12 q.P.length ny q.P.length) (hFA2b B0 B2 B3 B4 B5 B6 B8 B9 B10 B13 m x q.o q.P.length q.C D (itC q.P)) := by
  refine .mk ?_
  refine loop_T (fun j => ((vFA2 m l 11 ow q.P.length x2 i 12 q.P.length ny j), (hFA2b B0 B2 B3 B4 B5 B6 B8 B9 B10 B13 m x q.o q.P.length q.C D (itC q.P)))) (N := q.P.length) (by simp) (fun j hj => ⟨[(228, .bool true), (277, .bool false)], (vFA2 m l 11 ow q.P.length x2 i 12 q.P.length ny ((j + 1 : Nat) : Int)), (hFA2b B0 B2 B3 B4 B5 B6 B8 B9 B10 B13 m x q.o q.P.length q.C D (itC q.P)) ++ [.cells [.str q.P[j].1] 1 .own none], ?_, Gc.drop 14 rfl rfl hB⟩) ⟨_, _, _, (nfFCbs m x x2 i q.P.length l q.o ow q.P.length q.P.length ny B0 B2 B3 B4 B5 B6 B8 B9 B10 B13 q.C D (itC q.P)).trans (if_pos (by simp)), Gc.refl⟩
  obtain ⟨d0, d1, _⟩ := w.get hj
  obtain ⟨i0, i1⟩ := itC_get hj
  have e5 : IntKind.i64.wrap ((j : Int) + 1) = ((j + 1 : Nat) : Int) := by rw [wrapI64 (by omega)]; omega
  have x0 : ow + (j : Int).toNat * 3 + 0 = ow + j * 3 := by omega
  have x1 : ow + (j : Int).toNat * 3 + 1 = ow + j * 3 + 1 := by omega
  have x2' : 0 + (j : Int).toNat * 3 + 0 = j * 3 := by omega
  have x3 : 0 + (j : Int).toNat * 3 + 1 = j * 3 + 1 := by omega
  refine (nfFCb m x x2 i j l q.o ow q.P.length q.P.length ny B0 B2 B3 B4 B5 B6 B8 B9 B10 B13 q.C D (itC q.P)).trans ?_
  have hH : hFCb0 m x x2 i j l q.o ow q.P.length q.P.length ny B0 B2 B3 B4 B5 B6 B8 B9 B10 B13 q.C D (itC q.P) = (hFA2b B0 B2 B3 B4 B5 B6 B8 B9 B10 B13 m x q.o q.P.length q.C D (itC q.P)) ++ [.cells [.str q.P[j].1] 1 .own none] := by
    unfold hFCb0
    rw [x0, d0]; rfl
  have hr := ok.row (hp := hFCb0 m x x2 i j l q.o ow q.P.length q.P.length ny B0 B2 B3 B4 B5 B6 B8 B9 B10 B13 q.C D (itC q.P)) (k := 7) (md := .own) (par := (some 2)) (r := 0) (e := false) rfl
  have hI := RIxsi.mk q.P q.P[j].1 (hFCb0 m x x2 i j l q.o ow q.P.length q.P.length ny B0 B2 B3 B4 B5 B6 B8 B9 B10 B13 q.C D (itC q.P)) _ 14 .own none hr.1 hr.2 (by rw [hH]; rfl) (by omega) j (ix_at hd hj)
  have hc := cIxsi hI
  rw [x0, x1, x2', x3, e5]
  iterate 2 (refine (if_pos (by first | omega | (simp; done) | (simp [isIntV, isBoolV, isStrV, putCells, capOf]; done) | (simp; omega) | (simp [capOf]; omega))).trans ?_)
  refine (if_pos (by rw [d0]; rfl)).trans ?_
  refine (if_pos (cdec_true.2 (by rw [hc]; exact hI))).trans ?_
  refine (if_neg (by rw [hc]; simp)).trans ?_
  refine (if_pos (by rw [hc]; omega)).trans ?_
  refine (if_pos (by rw [hc, show q.o + (j : Int).toNat * 2 + 1 = q.o + j * 2 + 1 by omega, okC ok hj]; first | rfl | (simp [isIntV, intV, d1]; done) | (rw [d1]; simp [intV]))).trans ?_
  refine (if_pos (by first | omega | (simp; done) | (simp [isIntV, isBoolV, isStrV, putCells, capOf]; done) | (simp; omega) | (simp [capOf]; omega))).trans ?_
  refine (if_pos (by rw [i0]; rfl)).trans ?_
  refine (if_pos (by first | omega | (simp; done) | (simp [isIntV, isBoolV, isStrV, putCells, capOf]; done) | (simp; omega) | (simp [capOf]; omega))).trans ?_
  refine (if_pos (by rw [d0]; rfl)).trans ?_
  refine (if_neg (by rw [i0, d0]; simp [strV])).trans ?_
  refine (if_pos (by first | omega | (simp; done) | (simp [isIntV, isBoolV, isStrV, putCells, capOf]; done) | (simp; omega) | (simp [capOf]; omega))).trans ?_
  refine (if_pos (by rw [i1]; rfl)).trans ?_
  refine (if_pos (by first | omega | (simp; done) | (simp [isIntV, isBoolV, isStrV, putCells, capOf]; done) | (simp; omega) | (simp [capOf]; omega))).trans ?_
  refine (if_pos (by rw [d1]; rfl)).trans ?_
  refine (if_neg (by rw [i1, d1]; simp [intV])).trans ?_
  refine (if_pos (by first | omega | (simp; done) | (simp [isIntV, isBoolV, isStrV, putCells, capOf]; done) | (simp; omega) | (simp [capOf]; omega))).trans ?_
  refine (if_pos (by rw [d1]; rfl)).trans ?_
  refine (if_pos (by rw [hc, show q.o + (j : Int).toNat * 2 + 1 = q.o + j * 2 + 1 by omega, okC ok hj]; first | rfl | (simp [isIntV, intV, d1]; done) | (rw [d1]; simp [intV]))).trans ?_
  rw [hH]; rfl


end Go.Proofs.Ytdildbadafdbgaa.L
