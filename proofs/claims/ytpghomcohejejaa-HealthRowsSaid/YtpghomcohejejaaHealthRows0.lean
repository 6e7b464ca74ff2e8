/- HealthRows' run. -/
import Derived.Test.YtpghomcohejejaaHealthRowsN
set_option autoImplicit false
set_option maxRecDepth 100000
set_option linter.unusedVariables false
set_option linter.unusedSimpArgs false
namespace Go.Proofs.Ytpghomcohejejaa.L
open Go Go.Abs

def hrD : DipC := dipN true 0
def hrO (o : List Int) (i : Nat) : DipC := dipN true (1 + o.getD i 0 % 4)
def hrW (o : List Int) (i : Nat) : Bool := (o.getD i 0).tmod 2 == 0
noncomputable def hrT (S : HS) (o : List Int) (i : Nat) : HS := if i < o.length then telS S (hrO o i) (hrW o i) else S
noncomputable def hrS (f : Int) (l : List Bool) (o : List Int) : Nat → HS
  | 0 => newS f
  | i + 1 => telS (hrT (hrS f l o i) o i) hrD (l.getD i false)
def hrR (l : List Bool) : Nat → Nat
  | 0 => 0
  | i + 1 => if l.getD i false = true then 0 else hrR l i + 1
theorem hrR_le (l : List Bool) : ∀ i, hrR l i ≤ i
  | 0 => Nat.le_refl _
  | i + 1 => by have := hrR_le l i; unfold hrR; split <;> omega
theorem hrD_ok : hrD.ok = true := dipN_ok _ _
theorem hrO_ne (o : List Int) (i : Nat) : hrD ≠ hrO o i := fun h => by
  have := (dipN_inj (v := true) (w := true) (n := 0) (m := 1 + o.getD i 0 % 4) (by omega) (by omega)).1 h
  omega
theorem hrT_f (S : HS) (o : List Int) (i : Nat) : (hrT S o i).f = S.f := by unfold hrT; split; exact telS_f _ _ _; rfl
theorem hrS_f (f : Int) (l : List Bool) (o : List Int) : ∀ i, (hrS f l o i).f = f
  | 0 => rfl
  | i + 1 => by rw [hrS, telS_f, hrT_f, hrS_f f l o i]
theorem hrT_ok {B : Nat} {S : HS} (H : HOk B S) (o : List Int) (i : Nat) : HOk (B + 1) (hrT S o i) := by
  unfold hrT; split
  · exact tel_ok H _ _
  · exact H.up (by omega)
theorem hrT_cnt {B : Nat} {S : HS} (H : HOk B S) (o : List Int) (i : Nat) : cntS (hrT S o i) hrD = cntS S hrD := by
  unfold hrT; split
  · rw [cnt_tel H, if_neg fun h => hrO_ne o i h.2]
  · rfl
theorem hrS_ok (f : Int) (l : List Bool) (o : List Int) : ∀ i, HOk (2 * i) (hrS f l o i)
  | 0 => newS_ok f
  | i + 1 => tel_ok (hrT_ok (hrS_ok f l o i) o i) _ _
theorem hrS_cnt (f : Int) (l : List Bool) (o : List Int) : ∀ i, cntS (hrS f l o i) hrD = hrR l i
  | 0 => by simp [hrS, newS, cntS, valG_nil, hrR]
  | i + 1 => by
    have h := hrS_ok f l o i
    rw [hrS, cnt_tel (hrT_ok h o i), if_pos ⟨hrD_ok, rfl⟩, hrT_cnt h, hrS_cnt f l o i, hrR]
    split <;> simp
noncomputable def hrH (S : HS) (l : List Bool) (o : List Int) : AHeap := hHR S.f (l.map AV.bool) (o.map (AV.int .i64)) hrD.cells (esG S.G) S.c S.l.length S.z (rowD S.l S.z)
noncomputable def hrSt (f : Int) (l : List Bool) (o : List Int) (i : Nat) : List AV × AHeap := (vHR (hrS f l o i).f l.length o.length (hrR l i) i, hrH (hrS f l o i) l o)
theorem get_bools {l : List Bool} {i : Nat} (h : i < l.length) : (l.map AV.bool)[i]? = some (.bool (l.getD i false)) := by
  simp [List.getElem?_eq_getElem h, List.getD]
theorem hrDn (S : HS) (w : Bool) (hf : 1 ≤ S.f) (r : Nat) (hc : cntS S hrD = r) : telD S hrD w = (((if w = true then 0 else r + 1 : Nat) : Int) == S.f) := by
  unfold telD
  rw [hrD_ok, hc]
  cases w
  · show decide ((r : Int) + 1 = S.f) = (((r + 1 : Nat) : Int) == S.f)
    rw [Int.natCast_add]; rfl
  · simp; omega

theorem stepHRtt {S : HS} {l : List Bool} {o : List Int} {i r : Nat} (H : HOk 1000 S) (hf : 1 ≤ S.f) (hl : l.length ≤ 80) (hi : i < l.length) (hm : i < o.length) (hw : l.getD i false = true) (hr : r ≤ 1000) (hc : cntS S hrD = r) :
    ∃ vs1 h1, qround Try.prog tHR 100 4 [(46, .bool true), (52, .bool true), (73, .bool true), (108, .bool false)] noT HRL mHR (vHR S.f l.length o.length r i) (hrH S l o) = some (.norm, vs1, h1) ∧
      Gc 5 vs1 h1 (vHR S.f l.length o.length 0 ((i + 1 : Nat) : Int)) (hrH (telS (hrT S o i) hrD true) l o) := by
  have e0 : 0 + (i : Int).toNat * 1 = i := by omega
  have e5 := wrap1 (i := i) (by omega)
  have e6 := wrap1 (i := r) (by omega)
  have t18 : List.take 18 hrD.cells = hrD.cells := take18 hrD
  have H1 := hrT_ok H o i
  have H2 := tel_ok H1 hrD true
  have c1 : cntS (hrT S o i) hrD = r := by rw [hrT_cnt H, hc]
  have dn := hrDn (hrT S o i) true (by rw [hrT_f]; exact hf) r c1
  have c2 : cntS (telS (hrT S o i) hrD true) hrD = 0 := by rw [cnt_tel H1, if_pos ⟨hrD_ok, rfl⟩, c1]; rfl
  have f1 : (hrT S o i).f = S.f := hrT_f S o i
  have f2 : (telS (hrT S o i) hrD true).f = S.f := by rw [telS_f, f1]
  have u0 := unS_eq S
  have u1 := unS_eq (hrT S o i)
  have u2 := unS_eq (telS (hrT S o i) hrD true)
  have T0 := telOk (S := S) (d := hrO o i) (H.up (by omega))
  have T1 := telOk (S := hrT S o i) (d := hrD) (H1.up (by omega))
  have T2 := telOk (S := telS (hrT S o i) hrD true) (d := hrD) (H2.up (by omega))
  rw [u0, dipOf_eq] at T0
  rw [u1, dipOf_eq, f1] at T1
  rw [u2, dipOf_eq, f2] at T2
  rw [f1] at u1 dn
  rw [f2] at u2
  have hE : telE hrD = 0 := by unfold telE; rw [hrD_ok]; rfl
  have w1 : IntKind.i64.wrap (1 + o.getD i 0 % 4) = 1 + o.getD i 0 % 4 := wrapI64 (by omega)
  have eO : dipN true (1 + o.getD i 0 % 4) = hrO o i := rfl
  have eW : ((o.getD i 0).tmod 2 == 0) = hrW o i := rfl
  have eT : telS S (hrO o i) (hrW o i) = hrT S o i := by unfold hrT; rw [if_pos hm]
  have eN : (o.map (AV.int .i64))[i]? = some (.int .i64 (o.getD i 0)) := get_ints hm
  have row : qround Try.prog tHR 100 4 [(46, .bool true), (52, .bool true), (73, .bool true), (108, .bool false)] noT HRL mHR (vHR S.f l.length o.length r i) (hrH S l o) = some (.norm, vHR S.f l.length o.length 0 ((i + 1 : Nat) : Int), hHRtt0 S.f (l.map AV.bool) (o.map (AV.int .i64)) hrD.cells (esG S.G) S.c S.l.length S.z (rowD S.l S.z) l.length o.length r i) := by
    refine (nfHRtt ..).trans ?_
    simp only [e0, get_bools hi, hw, show ∀ x, intV (some (AV.int IntKind.i64 x)) = x from fun _ => rfl, show ∀ x, boolV (some (AV.bool x)) = x from fun _ => rfl, opq_eq, cellsN, dipOf_eq, t18, eN, w1, eO, eW, eT, u0, u1, u2, hE, dn, c2, e5, e6]
    repeat (first | (refine (if_pos ?_).trans ?_; · first | exact cdec_true.2 ⟨by decide, by decide, by decide, T2⟩ | exact cdec_true.2 ⟨by decide, by decide, by decide, T1⟩ | exact cdec_true.2 ⟨by decide, by decide, by decide, T0⟩ | exact AV.beq_self _ | rfl | (simp; done) | omega | (simp; omega)) | (refine (if_neg ?_).trans ?_; · first | decide | (simp; done) | (simp; omega)))
    rfl
  refine ⟨_, _, row, ?_⟩
  unfold hHRtt0
  simp only [e0, get_bools hi, hw, show ∀ x, intV (some (AV.int IntKind.i64 x)) = x from fun _ => rfl, show ∀ x, boolV (some (AV.bool x)) = x from fun _ => rfl, opq_eq, cellsN, dipOf_eq, t18, eN, w1, eO, eW, eT, u0, u1]
  unfold hrH
  rw [f2]
  exact Gc.by [0, 1, 2, 3, 4, 7] rfl (by decide) (.cons _ _ _ _ (.free _ rfl) (.cons _ _ _ _ (.sl _ _ _ _ _ _ rfl) (.cons _ _ _ _ (.sl _ _ _ _ _ _ rfl) (.cons _ _ _ _ (.ptr _ _ _ rfl) (.cons _ _ _ _ (.ptr _ _ _ rfl) (.free _ rfl))))))
    (.cons _ _ _ _ _ rfl (.row (frees_bools _) (by simp)) (.cons _ _ _ _ _ rfl (.row (frees_ints _) (by simp)) (.cons _ _ _ _ _ rfl (.mp _ _ _ _ _ (.free _ (gd_free H2.gd))) (.cons _ _ _ _ _ rfl (.cells _ _ _ _ _ _ (.cons _ _ _ _ (.free _ rfl) (.cons _ _ _ _ (.map _ _ rfl) (.cons _ _ _ _ (.sl _ _ _ _ _ _ rfl) .nil))) (by simp)) (.cons _ _ _ _ _ rfl (.row hrD.cells_frees (by simp)) (.cons _ _ _ _ _ rfl (.row (rowD_frees _ _) (by simp)) .nil))))))

theorem stepHRtf {S : HS} {l : List Bool} {o : List Int} {i r : Nat} (H : HOk 1000 S) (hf : 1 ≤ S.f) (hl : l.length ≤ 80) (hi : i < l.length) (hm : i < o.length) (hw : l.getD i false = false) (hr : r ≤ 1000) (hc : cntS S hrD = r) :
    ∃ vs1 h1, qround Try.prog tHR 100 4 [(46, .bool true), (52, .bool true), (73, .bool false), (108, .bool false)] noT HRL mHR (vHR S.f l.length o.length r i) (hrH S l o) = some (.norm, vs1, h1) ∧
      Gc 5 vs1 h1 (vHR S.f l.length o.length ((r + 1 : Nat) : Int) ((i + 1 : Nat) : Int)) (hrH (telS (hrT S o i) hrD false) l o) := by
  have e0 : 0 + (i : Int).toNat * 1 = i := by omega
  have e5 := wrap1 (i := i) (by omega)
  have e6 := wrap1 (i := r) (by omega)
  have t18 : List.take 18 hrD.cells = hrD.cells := take18 hrD
  have H1 := hrT_ok H o i
  have H2 := tel_ok H1 hrD false
  have c1 : cntS (hrT S o i) hrD = r := by rw [hrT_cnt H, hc]
  have dn := hrDn (hrT S o i) false (by rw [hrT_f]; exact hf) r c1
  have c2 : cntS (telS (hrT S o i) hrD false) hrD = (r : Int) + 1 := by rw [cnt_tel H1, if_pos ⟨hrD_ok, rfl⟩, c1]; rfl
  have f1 : (hrT S o i).f = S.f := hrT_f S o i
  have f2 : (telS (hrT S o i) hrD false).f = S.f := by rw [telS_f, f1]
  have u0 := unS_eq S
  have u1 := unS_eq (hrT S o i)
  have u2 := unS_eq (telS (hrT S o i) hrD false)
  have T0 := telOk (S := S) (d := hrO o i) (H.up (by omega))
  have T1 := telOk (S := hrT S o i) (d := hrD) (H1.up (by omega))
  have T2 := telOk (S := telS (hrT S o i) hrD false) (d := hrD) (H2.up (by omega))
  rw [u0, dipOf_eq] at T0
  rw [u1, dipOf_eq, f1] at T1
  rw [u2, dipOf_eq, f2] at T2
  rw [f1] at u1 dn
  rw [f2] at u2
  have hE : telE hrD = 0 := by unfold telE; rw [hrD_ok]; rfl
  have w1 : IntKind.i64.wrap (1 + o.getD i 0 % 4) = 1 + o.getD i 0 % 4 := wrapI64 (by omega)
  have eO : dipN true (1 + o.getD i 0 % 4) = hrO o i := rfl
  have eW : ((o.getD i 0).tmod 2 == 0) = hrW o i := rfl
  have eT : telS S (hrO o i) (hrW o i) = hrT S o i := by unfold hrT; rw [if_pos hm]
  have eN : (o.map (AV.int .i64))[i]? = some (.int .i64 (o.getD i 0)) := get_ints hm
  have row : qround Try.prog tHR 100 4 [(46, .bool true), (52, .bool true), (73, .bool false), (108, .bool false)] noT HRL mHR (vHR S.f l.length o.length r i) (hrH S l o) = some (.norm, vHR S.f l.length o.length ((r + 1 : Nat) : Int) ((i + 1 : Nat) : Int), hHRtf0 S.f (l.map AV.bool) (o.map (AV.int .i64)) hrD.cells (esG S.G) S.c S.l.length S.z (rowD S.l S.z) l.length o.length r i) := by
    refine (nfHRtf ..).trans ?_
    simp only [e0, get_bools hi, hw, show ∀ x, intV (some (AV.int IntKind.i64 x)) = x from fun _ => rfl, show ∀ x, boolV (some (AV.bool x)) = x from fun _ => rfl, opq_eq, cellsN, dipOf_eq, t18, eN, w1, eO, eW, eT, u0, u1, u2, hE, dn, c2, e5, e6]
    repeat (first | (refine (if_pos ?_).trans ?_; · first | exact cdec_true.2 ⟨by decide, by decide, by decide, T2⟩ | exact cdec_true.2 ⟨by decide, by decide, by decide, T1⟩ | exact cdec_true.2 ⟨by decide, by decide, by decide, T0⟩ | exact AV.beq_self _ | rfl | (simp; done) | omega | (simp; omega)) | (refine (if_neg ?_).trans ?_; · first | decide | (simp; done) | (simp; omega)))
    rfl
  refine ⟨_, _, row, ?_⟩
  unfold hHRtf0
  simp only [e0, get_bools hi, hw, show ∀ x, intV (some (AV.int IntKind.i64 x)) = x from fun _ => rfl, show ∀ x, boolV (some (AV.bool x)) = x from fun _ => rfl, opq_eq, cellsN, dipOf_eq, t18, eN, w1, eO, eW, eT, u0, u1]
  unfold hrH
  rw [f2]
  exact Gc.by [0, 1, 2, 3, 4, 7] rfl (by decide) (.cons _ _ _ _ (.free _ rfl) (.cons _ _ _ _ (.sl _ _ _ _ _ _ rfl) (.cons _ _ _ _ (.sl _ _ _ _ _ _ rfl) (.cons _ _ _ _ (.ptr _ _ _ rfl) (.cons _ _ _ _ (.ptr _ _ _ rfl) (.free _ rfl))))))
    (.cons _ _ _ _ _ rfl (.row (frees_bools _) (by simp)) (.cons _ _ _ _ _ rfl (.row (frees_ints _) (by simp)) (.cons _ _ _ _ _ rfl (.mp _ _ _ _ _ (.free _ (gd_free H2.gd))) (.cons _ _ _ _ _ rfl (.cells _ _ _ _ _ _ (.cons _ _ _ _ (.free _ rfl) (.cons _ _ _ _ (.map _ _ rfl) (.cons _ _ _ _ (.sl _ _ _ _ _ _ rfl) .nil))) (by simp)) (.cons _ _ _ _ _ rfl (.row hrD.cells_frees (by simp)) (.cons _ _ _ _ _ rfl (.row (rowD_frees _ _) (by simp)) .nil))))))

theorem stepHRft {S : HS} {l : List Bool} {o : List Int} {i r : Nat} (H : HOk 1000 S) (hf : 1 ≤ S.f) (hl : l.length ≤ 80) (hi : i < l.length) (hm : ¬ i < o.length) (hw : l.getD i false = true) (hr : r ≤ 1000) (hc : cntS S hrD = r) :
    ∃ vs1 h1, qround Try.prog tHR 100 4 [(46, .bool true), (52, .bool false), (73, .bool true), (108, .bool false)] noT HRL mHR (vHR S.f l.length o.length r i) (hrH S l o) = some (.norm, vs1, h1) ∧
      Gc 5 vs1 h1 (vHR S.f l.length o.length 0 ((i + 1 : Nat) : Int)) (hrH (telS (hrT S o i) hrD true) l o) := by
  have e0 : 0 + (i : Int).toNat * 1 = i := by omega
  have e5 := wrap1 (i := i) (by omega)
  have e6 := wrap1 (i := r) (by omega)
  have t18 : List.take 18 hrD.cells = hrD.cells := take18 hrD
  have H1 := hrT_ok H o i
  have H2 := tel_ok H1 hrD true
  have c1 : cntS (hrT S o i) hrD = r := by rw [hrT_cnt H, hc]
  have dn := hrDn (hrT S o i) true (by rw [hrT_f]; exact hf) r c1
  have c2 : cntS (telS (hrT S o i) hrD true) hrD = 0 := by rw [cnt_tel H1, if_pos ⟨hrD_ok, rfl⟩, c1]; rfl
  have f1 : (hrT S o i).f = S.f := hrT_f S o i
  have f2 : (telS (hrT S o i) hrD true).f = S.f := by rw [telS_f, f1]
  have u0 := unS_eq S
  have u1 := unS_eq (hrT S o i)
  have u2 := unS_eq (telS (hrT S o i) hrD true)
  have T0 := telOk (S := S) (d := hrO o i) (H.up (by omega))
  have T1 := telOk (S := hrT S o i) (d := hrD) (H1.up (by omega))
  have T2 := telOk (S := telS (hrT S o i) hrD true) (d := hrD) (H2.up (by omega))
  rw [u0, dipOf_eq] at T0
  rw [u1, dipOf_eq, f1] at T1
  rw [u2, dipOf_eq, f2] at T2
  rw [f1] at u1 dn
  rw [f2] at u2
  have hE : telE hrD = 0 := by unfold telE; rw [hrD_ok]; rfl
  have eT : hrT S o i = S := by unfold hrT; rw [if_neg hm]
  rw [eT] at u2 T1 T2 dn c2 f2 H2 ⊢
  have row : qround Try.prog tHR 100 4 [(46, .bool true), (52, .bool false), (73, .bool true), (108, .bool false)] noT HRL mHR (vHR S.f l.length o.length r i) (hrH S l o) = some (.norm, vHR S.f l.length o.length 0 ((i + 1 : Nat) : Int), hHRft0 S.f (l.map AV.bool) (o.map (AV.int .i64)) hrD.cells (esG S.G) S.c S.l.length S.z (rowD S.l S.z) l.length o.length r i) := by
    refine (nfHRft ..).trans ?_
    simp only [e0, get_bools hi, hw, show ∀ x, intV (some (AV.int IntKind.i64 x)) = x from fun _ => rfl, show ∀ x, boolV (some (AV.bool x)) = x from fun _ => rfl, opq_eq, cellsN, dipOf_eq, t18, u0, u1, u2, hE, dn, c2, e5, e6]
    repeat (first | (refine (if_pos ?_).trans ?_; · first | exact cdec_true.2 ⟨by decide, by decide, by decide, T2⟩ | exact cdec_true.2 ⟨by decide, by decide, by decide, T1⟩ | exact cdec_true.2 ⟨by decide, by decide, by decide, T0⟩ | exact AV.beq_self _ | rfl | (simp; done) | omega | (simp; omega)) | (refine (if_neg ?_).trans ?_; · first | decide | (simp; done) | (simp; omega)))
    rfl
  refine ⟨_, _, row, ?_⟩
  unfold hHRft0
  simp only [e0, get_bools hi, hw, show ∀ x, intV (some (AV.int IntKind.i64 x)) = x from fun _ => rfl, show ∀ x, boolV (some (AV.bool x)) = x from fun _ => rfl, opq_eq, cellsN, dipOf_eq, t18, u0, u1]
  unfold hrH
  rw [f2]
  exact Gc.by [0, 1, 2, 3, 4, 6] rfl (by decide) (.cons _ _ _ _ (.free _ rfl) (.cons _ _ _ _ (.sl _ _ _ _ _ _ rfl) (.cons _ _ _ _ (.sl _ _ _ _ _ _ rfl) (.cons _ _ _ _ (.ptr _ _ _ rfl) (.cons _ _ _ _ (.ptr _ _ _ rfl) (.free _ rfl))))))
    (.cons _ _ _ _ _ rfl (.row (frees_bools _) (by simp)) (.cons _ _ _ _ _ rfl (.row (frees_ints _) (by simp)) (.cons _ _ _ _ _ rfl (.mp _ _ _ _ _ (.free _ (gd_free H2.gd))) (.cons _ _ _ _ _ rfl (.cells _ _ _ _ _ _ (.cons _ _ _ _ (.free _ rfl) (.cons _ _ _ _ (.map _ _ rfl) (.cons _ _ _ _ (.sl _ _ _ _ _ _ rfl) .nil))) (by simp)) (.cons _ _ _ _ _ rfl (.row hrD.cells_frees (by simp)) (.cons _ _ _ _ _ rfl (.row (rowD_frees _ _) (by simp)) .nil))))))

theorem stepHRff {S : HS} {l : List Bool} {o : List Int} {i r : Nat} (H : HOk 1000 S) (hf : 1 ≤ S.f) (hl : l.length ≤ 80) (hi : i < l.length) (hm : ¬ i < o.length) (hw : l.getD i false = false) (hr : r ≤ 1000) (hc : cntS S hrD = r) :
    ∃ vs1 h1, qround Try.prog tHR 100 4 [(46, .bool true), (52, .bool false), (73, .bool false), (108, .bool false)] noT HRL mHR (vHR S.f l.length o.length r i) (hrH S l o) = some (.norm, vs1, h1) ∧
      Gc 5 vs1 h1 (vHR S.f l.length o.length ((r + 1 : Nat) : Int) ((i + 1 : Nat) : Int)) (hrH (telS (hrT S o i) hrD false) l o) := by
  have e0 : 0 + (i : Int).toNat * 1 = i := by omega
  have e5 := wrap1 (i := i) (by omega)
  have e6 := wrap1 (i := r) (by omega)
  have t18 : List.take 18 hrD.cells = hrD.cells := take18 hrD
  have H1 := hrT_ok H o i
  have H2 := tel_ok H1 hrD false
  have c1 : cntS (hrT S o i) hrD = r := by rw [hrT_cnt H, hc]
  have dn := hrDn (hrT S o i) false (by rw [hrT_f]; exact hf) r c1
  have c2 : cntS (telS (hrT S o i) hrD false) hrD = (r : Int) + 1 := by rw [cnt_tel H1, if_pos ⟨hrD_ok, rfl⟩, c1]; rfl
  have f1 : (hrT S o i).f = S.f := hrT_f S o i
  have f2 : (telS (hrT S o i) hrD false).f = S.f := by rw [telS_f, f1]
  have u0 := unS_eq S
  have u1 := unS_eq (hrT S o i)
  have u2 := unS_eq (telS (hrT S o i) hrD false)
  have T0 := telOk (S := S) (d := hrO o i) (H.up (by omega))
  have T1 := telOk (S := hrT S o i) (d := hrD) (H1.up (by omega))
  have T2 := telOk (S := telS (hrT S o i) hrD false) (d := hrD) (H2.up (by omega))
  rw [u0, dipOf_eq] at T0
  rw [u1, dipOf_eq, f1] at T1
  rw [u2, dipOf_eq, f2] at T2
  rw [f1] at u1 dn
  rw [f2] at u2
  have hE : telE hrD = 0 := by unfold telE; rw [hrD_ok]; rfl
  have eT : hrT S o i = S := by unfold hrT; rw [if_neg hm]
  rw [eT] at u2 T1 T2 dn c2 f2 H2 ⊢
  have row : qround Try.prog tHR 100 4 [(46, .bool true), (52, .bool false), (73, .bool false), (108, .bool false)] noT HRL mHR (vHR S.f l.length o.length r i) (hrH S l o) = some (.norm, vHR S.f l.length o.length ((r + 1 : Nat) : Int) ((i + 1 : Nat) : Int), hHRff0 S.f (l.map AV.bool) (o.map (AV.int .i64)) hrD.cells (esG S.G) S.c S.l.length S.z (rowD S.l S.z) l.length o.length r i) := by
    refine (nfHRff ..).trans ?_
    simp only [e0, get_bools hi, hw, show ∀ x, intV (some (AV.int IntKind.i64 x)) = x from fun _ => rfl, show ∀ x, boolV (some (AV.bool x)) = x from fun _ => rfl, opq_eq, cellsN, dipOf_eq, t18, u0, u1, u2, hE, dn, c2, e5, e6]
    repeat (first | (refine (if_pos ?_).trans ?_; · first | exact cdec_true.2 ⟨by decide, by decide, by decide, T2⟩ | exact cdec_true.2 ⟨by decide, by decide, by decide, T1⟩ | exact cdec_true.2 ⟨by decide, by decide, by decide, T0⟩ | exact AV.beq_self _ | rfl | (simp; done) | omega | (simp; omega)) | (refine (if_neg ?_).trans ?_; · first | decide | (simp; done) | (simp; omega)))
    rfl
  refine ⟨_, _, row, ?_⟩
  unfold hHRff0
  simp only [e0, get_bools hi, hw, show ∀ x, intV (some (AV.int IntKind.i64 x)) = x from fun _ => rfl, show ∀ x, boolV (some (AV.bool x)) = x from fun _ => rfl, opq_eq, cellsN, dipOf_eq, t18, u0, u1]
  unfold hrH
  rw [f2]
  exact Gc.by [0, 1, 2, 3, 4, 6] rfl (by decide) (.cons _ _ _ _ (.free _ rfl) (.cons _ _ _ _ (.sl _ _ _ _ _ _ rfl) (.cons _ _ _ _ (.sl _ _ _ _ _ _ rfl) (.cons _ _ _ _ (.ptr _ _ _ rfl) (.cons _ _ _ _ (.ptr _ _ _ rfl) (.free _ rfl))))))
    (.cons _ _ _ _ _ rfl (.row (frees_bools _) (by simp)) (.cons _ _ _ _ _ rfl (.row (frees_ints _) (by simp)) (.cons _ _ _ _ _ rfl (.mp _ _ _ _ _ (.free _ (gd_free H2.gd))) (.cons _ _ _ _ _ rfl (.cells _ _ _ _ _ _ (.cons _ _ _ _ (.free _ rfl) (.cons _ _ _ _ (.map _ _ rfl) (.cons _ _ _ _ (.sl _ _ _ _ _ _ rfl) .nil))) (by simp)) (.cons _ _ _ _ _ rfl (.row hrD.cells_frees (by simp)) (.cons _ _ _ _ _ rfl (.row (rowD_frees _ _) (by simp)) .nil))))))

theorem runHealthRows (f : Int) (l : List Bool) (o : List Int) (hf : -9223372036854775808 ≤ f ∧ f < 9223372036854775808) (_ : l.length ≤ maxLen) (ho : ∀ x ∈ o, (Lit.int .i64 x).wf = true) : ∃ h', Runs Try.prog 4 [.int .i64 f, .sl (some (0, 0)) l.length 0 false, .sl (some (1, 0)) o.length 0 false] [.cells (l.map AV.bool) 1 .far none, .cells (o.map (AV.int .i64)) 1 .far none] (.bool true) h' := by
  by_cases hb : f < 1 ∨ 10 < f ∨ 80 < l.length ∨ 80 < o.length
  · refine Runs.valT0 tHROk (F := 100) (n := 4) (pr := [(29, .bool true)]) ((nfHRl f l.length o.length _ _ _).trans ?_)
    by_cases h1 : f < 1
    · exact if_pos (by simp; omega)
    refine (if_neg (by simp; omega)).trans ?_
    by_cases h2 : 10 < f
    · exact if_pos (by simp; omega)
    refine (if_neg (by simp; omega)).trans ?_
    by_cases h3 : 80 < l.length
    · exact if_pos (by simp; omega)
    refine (if_neg (by simp; omega)).trans ?_
    exact if_pos (by simp; omega)
  have hl : l.length ≤ 80 := by omega
  have hS : (hrS f l o l.length).f = f := hrS_f f l o _
  have k1 : True → ∃ vs2 h2, Pre 5 (vHR f l.length o.length 0 0) (hHRz f (l.map AV.bool) (o.map (AV.int .i64)) hrD.cells) vs2 h2 ∧ ∃ k, GReach (roundG Try.prog (deepT Try.prog tHR 100 4) (lsT noT) HRL mHR) 5 k vs2 h2 (.exit 0) (vHR f l.length o.length (hrR l l.length) l.length) (hrH (hrS f l o l.length) l o) := by
    intro _
    refine ⟨(hrSt f l o 0).1, (hrSt f l o 0).2, ?_, ?_⟩
    · refine .gc _ _ (vHR f l.length o.length 0 0) [.cells (l.map AV.bool) 1 .far none, .cells (o.map (AV.int .i64)) 1 .far none, .mp [] 0 true, .cells [.int .i64 f, .map (some 2), .sl none 0 0 true] 3 .own none, .cells hrD.cells 18 .own none] _ _ (Gc.by [0, 1, 2, 3, 4] rfl (by decide) (.cons _ _ _ _ (.free _ rfl) (.cons _ _ _ _ (.sl _ _ _ _ _ _ rfl) (.cons _ _ _ _ (.sl _ _ _ _ _ _ rfl) (.cons _ _ _ _ (.ptr _ _ _ rfl) (.cons _ _ _ _ (.ptr _ _ _ rfl) (.free _ rfl))))))
        (.cons _ _ _ _ _ rfl (.row (frees_bools _) (by simp)) (.cons _ _ _ _ _ rfl (.row (frees_ints _) (by simp)) (.cons _ _ _ _ _ rfl (.mp _ _ _ _ _ .nil) (.cons _ _ _ _ _ rfl (.cells _ _ _ _ _ _ (.cons _ _ _ _ (.free _ rfl) (.cons _ _ _ _ (.map _ _ rfl) (.free _ rfl))) (by simp)) (.cons _ _ _ _ _ rfl (.row hrD.cells_frees (by simp)) .nil)))))) ?_
      exact .void 18 _ _ _ _ _ _ (NRs.refl _) (.cons _ _ _ _ (.same _) (.cons _ _ _ _ (.same _) (.cons _ _ _ _ (.same _) (.cons _ _ _ _ (.cells _ _ _ _ _ (.same _ _ _ (.same _ _ _ (.void _ _ _ .nil)))) (.cons _ _ _ _ (.same _) (.cons _ _ _ _ (.same _) .nil)))))) (.done _ _)
    · rw [show vHR f l.length o.length (hrR l l.length) l.length = (hrSt f l o l.length).1 by unfold hrSt; rw [hS]]
      refine loop_T (hrSt f l o) (N := l.length) (by simp) (fun i hi => ?_) ⟨[(46, .bool false)], _, _, (nfHRs ..).trans (if_pos (by simp)), Gc.refl⟩
      have ok := (hrS_ok f l o i).up (show 2 * i ≤ 1000 by omega)
      have hc := hrS_cnt f l o i
      have hr : hrR l i ≤ 1000 := by have := hrR_le l i; omega
      have hfi : 1 ≤ (hrS f l o i).f := by rw [hrS_f]; omega
      have e1 : (hrS f l o (i + 1)).f = (hrS f l o i).f := by rw [hrS_f, hrS_f]
      have e2 : hrS f l o (i + 1) = telS (hrT (hrS f l o i) o i) hrD (l.getD i false) := rfl
      unfold hrSt
      rw [e1]
      cases hw : l.getD i false
      · have e3 : hrR l (i + 1) = hrR l i + 1 := by rw [hrR, hw]; rfl
        rw [e3, e2, hw]
        by_cases hm : i < o.length
        · exact ⟨_, stepHRtf ok hfi hl hi hm hw hr hc⟩
        · exact ⟨_, stepHRff ok hfi hl hi hm hw hr hc⟩
      · have e3 : hrR l (i + 1) = 0 := by rw [hrR, hw]; rfl
        rw [e3, e2, hw]
        by_cases hm : i < o.length
        · exact ⟨_, stepHRtt ok hfi hl hi hm hw hr hc⟩
        · exact ⟨_, stepHRft ok hfi hl hi hm hw hr hc⟩
  have lp : loopsOf (bodyOf Try.prog 4) = [HRL] := by kernel_rfl
  have eh : hrH (hrS f l o l.length) l o = hHR f (l.map AV.bool) (o.map (AV.int .i64)) hrD.cells (esG (hrS f l o l.length).G) (hrS f l o l.length).c (hrS f l o l.length).l.length (hrS f l o l.length).z (rowD (hrS f l o l.length).l (hrS f l o l.length).z) := by unfold hrH; rw [hS]
  rw [eh] at k1
  refine Runs.valT tHROk (F := 100) (n := 4) (pr := [(29, .bool false), (41, .bool false)]) (only (k := 9) lp (fixP_T tHROk (F := 100) (n := 4) (LS := noT) (noLoops (by kernel_rfl)) k1)) ?_
  refine (nfHRm True f _ _ _ _ _ _ _ _ l.length o.length _ _).trans ?_
  iterate 3 (refine (if_neg (by simp; omega)).trans ?_)
  refine (if_pos (by simp; omega)).trans ?_
  iterate 2 (refine (if_neg (by simp; omega)).trans ?_)
  have ec : opq cellsN true 0 = hrD.cells := by rw [opq_eq]; rfl
  refine (if_pos (by rw [ec]; exact hrD.cells_length)).trans ?_
  refine (if_pos ⟨by rw [ec]; simp, by rw [ec]; exact cells_isCell _⟩).trans ?_
  exact if_pos (cdec_true.2 ⟨trivial, rfl, by unfold hHRm0; rw [ec, putZ]; rfl⟩)


end Go.Proofs.Ytpghomcohejejaa.L
