/- HealthTells' run. -/
import Derived.Test.YtpghomcohejejaaHealthTellsN
set_option autoImplicit false
set_option maxRecDepth 100000
set_option linter.unusedVariables false
set_option linter.unusedSimpArgs false
namespace Go.Proofs.Ytpghomcohejejaa.L
open Go Go.Abs

def prC (z : List (Int × Int)) : List AV := z.flatMap fun p => [.int .i64 p.1, .int .i64 p.2]
theorem prC_len : ∀ z, (prC z).length = z.length * 2
  | [] => rfl
  | p :: z => by
    show ([AV.int .i64 p.1, AV.int .i64 p.2] ++ prC z).length = _
    rw [List.length_append, prC_len z, List.length_cons]; simp; omega
theorem prC_frees : ∀ z, AV.frees (prC z) = true
  | [] => rfl
  | p :: z => frees_append (l := [AV.int .i64 p.1, AV.int .i64 p.2]) rfl (prC_frees z)
theorem prC_0 : ∀ {z : List (Int × Int)} {i : Nat} (h : i < z.length), (prC z)[i * 2]? = some (.int .i64 z[i].1)
  | [], _, h => by simp at h
  | p :: z, 0, _ => rfl
  | p :: z, i + 1, h => by
    have := prC_0 (z := z) (i := i) (by simpa using h)
    show ([AV.int .i64 p.1, AV.int .i64 p.2] ++ prC z)[(i + 1) * 2]? = _
    rw [List.getElem?_append_right (by simp; omega), show (i + 1) * 2 - [AV.int .i64 p.1, AV.int .i64 p.2].length = i * 2 by simp; omega, this]; rfl
theorem prC_1 : ∀ {z : List (Int × Int)} {i : Nat} (h : i < z.length), (prC z)[i * 2 + 1]? = some (.int .i64 z[i].2)
  | [], _, h => by simp at h
  | p :: z, 0, _ => rfl
  | p :: z, i + 1, h => by
    have := prC_1 (z := z) (i := i) (by simpa using h)
    show ([AV.int .i64 p.1, AV.int .i64 p.2] ++ prC z)[(i + 1) * 2 + 1]? = _
    rw [List.getElem?_append_right (by simp; omega), show (i + 1) * 2 + 1 - [AV.int .i64 p.1, AV.int .i64 p.2].length = i * 2 + 1 by simp; omega, this]; rfl
theorem rows_pairs : ∀ {rows : List (List AV)}, (∀ r ∈ rows, FitsK [.int .i64, .int .i64] r) → ∃ z : List (Int × Int), rows.flatten = prC z ∧ z.length = rows.length
  | [], _ => ⟨[], rfl, rfl⟩
  | r :: rows, h => by
    obtain ⟨z, h1, h2⟩ := rows_pairs (rows := rows) fun r hr => h r (by simp [hr])
    have := h r (by simp)
    cases this with
    | int a b _ _ m t =>
    cases t with
    | int a' b' _ _ m' t' =>
    cases t'
    exact ⟨(_, _) :: z, by rw [List.flatten_cons, h1]; rfl, by simp [h2]⟩

def dX (n : Int) : DipC := ⟨false, [0, 0, 0, 0, 0, 0, 0, 0, 0, 0, 0, 0, 5, 0, 0, 0], dport n, rfl⟩
theorem putX (v : Bool) (n : Int) : putCells (dipN v n).cells 0 [.bool false, .int .u8 0, .int .u8 0, .int .u8 0, .int .u8 0, .int .u8 0, .int .u8 0, .int .u8 0, .int .u8 0, .int .u8 0, .int .u8 0, .int .u8 0, .int .u8 0, .int .u8 5, .int .u8 0, .int .u8 0, .int .u8 0] = (dX n).cells := by
  kernel_rfl
def htDip (a : Int) : DipC := if a.tmod 11 = 10 then dX (a % 5) else dipN (a.tmod 2 == 0) (a % 5)
def htW (b : Int) : Bool := b.tmod 3 == 0
noncomputable def htS (f : Int) (z : List (Int × Int)) : Nat → HS
  | 0 => newS f
  | i + 1 => telS (htS f z i) (htDip (z.getD i (0, 0)).1) (htW (z.getD i (0, 0)).2)
theorem htS_f (f : Int) (z : List (Int × Int)) : ∀ i, (htS f z i).f = f
  | 0 => rfl
  | i + 1 => by rw [htS, telS_f, htS_f f z i]
theorem htS_ok (f : Int) (z : List (Int × Int)) : ∀ i, HOk i (htS f z i)
  | 0 => newS_ok f
  | i + 1 => tel_ok (htS_ok f z i) _ _

variable {B0 B1 B2 B4 B5 B6 B7 B10 : ABlk}
theorem rowHT2 {f i : Int} {n : Nat} {P : PL} {k : Nat} (hk : k < P.length) (hl : P.length ≤ 100000) :
    qround Try.prog tHT 100 4 [(160, .bool true), (174, .bool false)] noT HT2 mHT2 (vHT2 f n P.length i k) (hHT2 B0 B1 B2 B4 B5 B6 B7 B10 f P.length (itP P) (itP P)) = some (.norm, vHT2 f n P.length i ((k + 1 : Nat) : Int), hHT2 B0 B1 B2 B4 B5 B6 B7 B10 f P.length (itP P) (itP P)) := by
  have e2 : 0 + (k : Int).toNat * 19 = k * 19 := by omega
  have e5 := wrap1 (i := k) (by omega)
  have x19 := itP_19 hk
  refine (nfHT2a ..).trans ?_
  simp only [e2, x19, e5]
  generalize P[k].1 = d at *
  generalize P[k].2 = v at *
  refine (if_pos (by simp; omega)).trans ?_
  refine (if_pos (by omega)).trans ?_
  refine (if_pos (by rw [itP_length]; omega)).trans ?_
  refine (if_pos (by omega)).trans ?_
  refine (if_pos (by rw [itP_length]; omega)).trans ?_
  obtain ⟨v', b', q', hb'⟩ := d
  obtain ⟨c0, c1, c2, c3, c4, c5, c6, c7, c8, c9, c10, c11, c12, c13, c14, c15, rfl⟩ := sixteen hb'
  iterate 44 (refine (if_pos (by first | rfl | exact Nat.le_refl 17 | exact Nat.le_refl 18 | exact (by decide : 17 ≤ 18) | exact (by decide : 18 ≤ 19))).trans ?_)
  refine (if_pos (by simp)).trans ?_
  rfl
theorem saysHT {f i : Int} {n : Nat} {P : PL} (hl : P.length ≤ 100000) :
    LSays bHT2 11 (vHT2 f n P.length i 0) (hHT2 B0 B1 B2 B4 B5 B6 B7 B10 f P.length (itP P) (itP P)) (.exit 2) (vHT2 f n P.length i P.length) (hHT2 B0 B1 B2 B4 B5 B6 B7 B10 f P.length (itP P) (itP P)) :=
  says_up (fun k => vHT2 f n P.length i k) (N := P.length) (by simp) rfl rfl (fun k hk => ⟨_, rowHT2 hk hl⟩) ⟨[(160, .bool false)], (nfHT2s ..).trans (if_pos (by simp))⟩

noncomputable def htH (z : List (Int × Int)) (S : HS) : AHeap := hHT S.f (prC z) (esG S.G) S.c S.l.length S.z (rowD S.l S.z) (plS S).length (itP (plS S))
noncomputable def htSt (f : Int) (z : List (Int × Int)) (i : Nat) : List AV × AHeap := (vHT1 (htS f z i).f z.length i, htH z (htS f z i))
theorem plS_len (S : HS) : (plS S).length = S.l.length := by unfold plS; rw [List.length_map]

theorem stepHTt {S : HS} {z : List (Int × Int)} {i : Nat} {a b : Int} (H : HOk 1000 S) (hz : z.length ≤ 80) (hi : i < z.length) (ha : z[i].1 = a) (hb : z[i].2 = b) (h11 : a.tmod 11 = 10) :
    ∃ vs1 h1, qround Try.prog tHT 100 4 [(53, .bool true), (76, .bool true), (133, .bool false), (156, .bool false)] lsHT HT1 mHT1 (vHT1 S.f z.length i) (htH z S) = some (.norm, vs1, h1) ∧ Gc 4 vs1 h1 (vHT1 S.f z.length ((i + 1 : Nat) : Int)) (htH z (telS S (dX (a % 5)) (htW b))) := by
  have e2 : 0 + (i : Int).toNat * 2 = i * 2 := by omega
  have e5 := wrap1 (i := i) (by omega)
  have eC0 : (prC z)[i * 2]? = some (.int .i64 a) := by rw [prC_0 hi, ha]
  have eC1 : (prC z)[i * 2 + 1]? = some (.int .i64 b) := by rw [prC_1 hi, hb]
  have hC0 : (opq cellsN (a.tmod 2 == 0) (a % 5)) = (dipN (a.tmod 2 == 0) (a % 5)).cells := by rw [opq_eq]; rfl
  have pz : putCells dipZ 0 (dipN (a.tmod 2 == 0) (a % 5)).cells = (dipN (a.tmod 2 == 0) (a % 5)).cells := putZ _
  have eD : htE (prC z) i = (dX (a % 5)).cells := by
    unfold htE
    simp only [e2, Nat.add_zero, eC0, show ∀ x, intV (some (AV.int IntKind.i64 x)) = x from fun _ => rfl]
    rw [hC0, pz]
    exact (congrArg (List.take 18) (putX _ _)).trans (take18 _)
  have u0 := unS_eq S
  have hd : htDip a = (dX (a % 5)) := by unfold htDip; rw [if_pos h11]
  have T0 := telOk (S := S) (d := (dX (a % 5))) (H.up (by omega))
  have R0 := rtOk (P := plS S) (d := (dX (a % 5))) (plS_ok (H.up (by omega)))
  rw [u0, dipOf_eq] at T0
  rw [plOf_eq, dipOf_eq] at R0
  have eP := telP_eq H (dX (a % 5)) (htW b)
  have ePD := telPD_eq H (dX (a % 5)) (htW b)
  have H1 := tel_ok H (dX (a % 5)) (htW b)
  have f1 : (telS S (dX (a % 5)) (htW b)).f = S.f := telS_f _ _ _
  have hW : (b.tmod 3 == 0) = htW b := rfl
  generalize hS1 : telS S (dX (a % 5)) (htW b) = S1 at *
  have u1 := unS_eq S1
  have T1 := telOk (S := S1) (d := (dX (a % 5))) (H1.up (by omega))
  have R1 := rtOk (P := plS S1) (d := (dX (a % 5))) (plS_ok (H1.up (by omega)))
  have A1 := allOk (S := S1) (mo := -1) (H1.up (by omega)) (by omega)
  have A2 := allOk (S := S1) (mo := 1) (H1.up (by omega)) (by omega)
  rw [u1, dipOf_eq, f1] at T1
  rw [plOf_eq, dipOf_eq] at R1
  rw [u1, f1] at A1 A2
  rw [f1] at u1
  have c0 := cntP_plS H1 (dX (a % 5))
  have cA : cntA S1.l.length (-1) = S1.l.length := by unfold cntA; rw [if_pos (by omega)]
  have cB : cntA S1.l.length 1 = min 1 S1.l.length := by unfold cntA; rw [if_neg (by omega)]; rfl
  have hlen := plS_len S1
  have hL1 := H1.len
  have LS := saysHT (B0 := .cells (prC z) 2 .far none) (B1 := .mp (esG S1.G) S1.c true) (B2 := .cells [.int .i64 S.f, .map (some 1), .sl (some (7, 0)) S1.l.length S1.z false] 3 .own none) (B4 := .dead) (B5 := .dead) (B6 := .cells (dX (a % 5)).cells 18 .own none) (B7 := .cells (rowD S1.l S1.z) 18 .own none) (B10 := .cells (itI S1 (S1.l.take (min 1 S1.l.length))) 19 .own none) (f := S.f) (i := i) (n := z.length) (P := plS S1) (by omega)
  have eH : hHT1t0 S.f (prC z) (esG S.G) S.c S.l.length S.z (rowD S.l S.z) (plS S).length (itP (plS S)) z.length i = hHT2 (.cells (prC z) 2 .far none) (.mp (esG S1.G) S1.c true) (.cells [.int .i64 S.f, .map (some 1), .sl (some (7, 0)) S1.l.length S1.z false] 3 .own none) .dead .dead (.cells (dX (a % 5)).cells 18 .own none) (.cells (rowD S1.l S1.z) 18 .own none) (.cells (itI S1 (S1.l.take (min 1 S1.l.length))) 19 .own none) S.f (plS S1).length (itP (plS S1)) (itP (plS S1)) := by
    unfold hHT1t0
    simp only [e2, Nat.add_zero, eC0, eC1, show ∀ x, intV (some (AV.int IntKind.i64 x)) = x from fun _ => rfl, opq_eq, eD, dipOf_eq, plOf_eq, u0, eP, ePD, u1, c0, cA, cB, List.take_length, hW, hS1, hC0, pz, putX]
    rw [← itP_plS]
    rfl
  have row : qround Try.prog tHT 100 4 [(53, .bool true), (76, .bool true), (133, .bool false), (156, .bool false)] lsHT HT1 mHT1 (vHT1 S.f z.length i) (htH z S) = some (.norm, vHT1 S.f z.length ((i + 1 : Nat) : Int), hHT1t0 S.f (prC z) (esG S.G) S.c S.l.length S.z (rowD S.l S.z) (plS S).length (itP (plS S)) z.length i) := by
    refine (nfHT1t ..).trans ?_
    rw [eH]
    simp only [e2, Nat.add_zero, eC0, eC1, show ∀ x, intV (some (AV.int IntKind.i64 x)) = x from fun _ => rfl, opq_eq, eD, dipOf_eq, plOf_eq, u0, eP, ePD, u1, c0, cA, cB, List.take_length, hW, hS1, hC0, pz, e5, putX]
    generalize hHT2 (.cells (prC z) 2 .far none) _ _ _ _ _ _ _ _ _ _ _ = HH at *
    rw [hlen] at LS
    repeat (first | (refine (if_pos ?_).trans ?_; · first | rfl | exact AV.beq_self _ | omega | exact ⟨by simp, cells_isCell _⟩ | exact ⟨by simp, rfl⟩ | exact cdec_true.2 ⟨by decide, by decide, by decide, T0⟩ | exact cdec_true.2 ⟨by decide, by decide, by decide, T1⟩ | exact cdec_true.2 ⟨by decide, R0⟩ | exact cdec_true.2 ⟨by decide, R1⟩ | exact cdec_true.2 ⟨by decide, by decide, by decide, A1⟩ | exact cdec_true.2 ⟨by decide, by decide, by decide, A2⟩ | exact cdec_true.2 LS | (simp; done) | (simp; omega)) | (refine (if_neg ?_).trans ?_; · first | decide | (simp; done) | (simp; omega)))
    rfl
  refine ⟨_, _, row, ?_⟩
  rw [eH]
  unfold htH
  rw [f1]
  exact Gc.by [0, 1, 2, 3, 7, 8] rfl (by decide) (.cons _ _ _ _ (.free _ rfl) (.cons _ _ _ _ (.sl _ _ _ _ _ _ rfl) (.cons _ _ _ _ (.ptr _ _ _ rfl) (.cons _ _ _ _ (.ptr _ _ _ rfl) (.free _ rfl)))))
    (.cons _ _ _ _ _ rfl (.row (prC_frees _) (by simp)) (.cons _ _ _ _ _ rfl (.mp _ _ _ _ _ (.free _ (gd_free H1.gd))) (.cons _ _ _ _ _ rfl (.cells _ _ _ _ _ _ (.cons _ _ _ _ (.free _ rfl) (.cons _ _ _ _ (.map _ _ rfl) (.cons _ _ _ _ (.sl _ _ _ _ _ _ rfl) .nil))) (by simp)) (.cons _ _ _ _ _ rfl (.cells _ _ _ _ _ _ (.cons _ _ _ _ (.free _ rfl) (.cons _ _ _ _ (.sl _ _ _ _ _ _ rfl) .nil)) (by simp)) (.cons _ _ _ _ _ rfl (.row (rowD_frees _ _) (by simp)) (.cons _ _ _ _ _ rfl (.row (itP_frees _) (by simp)) .nil))))))

theorem stepHTf {S : HS} {z : List (Int × Int)} {i : Nat} {a b : Int} (H : HOk 1000 S) (hz : z.length ≤ 80) (hi : i < z.length) (ha : z[i].1 = a) (hb : z[i].2 = b) (h11 : ¬ a.tmod 11 = 10) :
    ∃ vs1 h1, qround Try.prog tHT 100 4 [(53, .bool true), (76, .bool false), (133, .bool false), (156, .bool false)] lsHT HT1 mHT1 (vHT1 S.f z.length i) (htH z S) = some (.norm, vs1, h1) ∧ Gc 4 vs1 h1 (vHT1 S.f z.length ((i + 1 : Nat) : Int)) (htH z (telS S (dipN (a.tmod 2 == 0) (a % 5)) (htW b))) := by
  have e2 : 0 + (i : Int).toNat * 2 = i * 2 := by omega
  have e5 := wrap1 (i := i) (by omega)
  have eC0 : (prC z)[i * 2]? = some (.int .i64 a) := by rw [prC_0 hi, ha]
  have eC1 : (prC z)[i * 2 + 1]? = some (.int .i64 b) := by rw [prC_1 hi, hb]
  have hC0 : (opq cellsN (a.tmod 2 == 0) (a % 5)) = (dipN (a.tmod 2 == 0) (a % 5)).cells := by rw [opq_eq]; rfl
  have pz : putCells dipZ 0 (dipN (a.tmod 2 == 0) (a % 5)).cells = (dipN (a.tmod 2 == 0) (a % 5)).cells := putZ _
  have eD : htD (prC z) i = (dipN (a.tmod 2 == 0) (a % 5)).cells := by
    unfold htD
    simp only [e2, Nat.add_zero, eC0, show ∀ x, intV (some (AV.int IntKind.i64 x)) = x from fun _ => rfl]
    rw [hC0, pz, take18]
    
  have u0 := unS_eq S
  have hd : htDip a = (dipN (a.tmod 2 == 0) (a % 5)) := by unfold htDip; rw [if_neg h11]
  have T0 := telOk (S := S) (d := (dipN (a.tmod 2 == 0) (a % 5))) (H.up (by omega))
  have R0 := rtOk (P := plS S) (d := (dipN (a.tmod 2 == 0) (a % 5))) (plS_ok (H.up (by omega)))
  rw [u0, dipOf_eq] at T0
  rw [plOf_eq, dipOf_eq] at R0
  have eP := telP_eq H (dipN (a.tmod 2 == 0) (a % 5)) (htW b)
  have ePD := telPD_eq H (dipN (a.tmod 2 == 0) (a % 5)) (htW b)
  have H1 := tel_ok H (dipN (a.tmod 2 == 0) (a % 5)) (htW b)
  have f1 : (telS S (dipN (a.tmod 2 == 0) (a % 5)) (htW b)).f = S.f := telS_f _ _ _
  have hW : (b.tmod 3 == 0) = htW b := rfl
  generalize hS1 : telS S (dipN (a.tmod 2 == 0) (a % 5)) (htW b) = S1 at *
  have u1 := unS_eq S1
  have T1 := telOk (S := S1) (d := (dipN (a.tmod 2 == 0) (a % 5))) (H1.up (by omega))
  have R1 := rtOk (P := plS S1) (d := (dipN (a.tmod 2 == 0) (a % 5))) (plS_ok (H1.up (by omega)))
  have A1 := allOk (S := S1) (mo := -1) (H1.up (by omega)) (by omega)
  have A2 := allOk (S := S1) (mo := 1) (H1.up (by omega)) (by omega)
  rw [u1, dipOf_eq, f1] at T1
  rw [plOf_eq, dipOf_eq] at R1
  rw [u1, f1] at A1 A2
  rw [f1] at u1
  have c0 := cntP_plS H1 (dipN (a.tmod 2 == 0) (a % 5))
  have cA : cntA S1.l.length (-1) = S1.l.length := by unfold cntA; rw [if_pos (by omega)]
  have cB : cntA S1.l.length 1 = min 1 S1.l.length := by unfold cntA; rw [if_neg (by omega)]; rfl
  have hlen := plS_len S1
  have hL1 := H1.len
  have LS := saysHT (B0 := .cells (prC z) 2 .far none) (B1 := .mp (esG S1.G) S1.c true) (B2 := .cells [.int .i64 S.f, .map (some 1), .sl (some (7, 0)) S1.l.length S1.z false] 3 .own none) (B4 := .dead) (B5 := .dead) (B6 := .cells (dipN (a.tmod 2 == 0) (a % 5)).cells 18 .own none) (B7 := .cells (rowD S1.l S1.z) 18 .own none) (B10 := .cells (itI S1 (S1.l.take (min 1 S1.l.length))) 19 .own none) (f := S.f) (i := i) (n := z.length) (P := plS S1) (by omega)
  have eH : hHT1f0 S.f (prC z) (esG S.G) S.c S.l.length S.z (rowD S.l S.z) (plS S).length (itP (plS S)) z.length i = hHT2 (.cells (prC z) 2 .far none) (.mp (esG S1.G) S1.c true) (.cells [.int .i64 S.f, .map (some 1), .sl (some (7, 0)) S1.l.length S1.z false] 3 .own none) .dead .dead (.cells (dipN (a.tmod 2 == 0) (a % 5)).cells 18 .own none) (.cells (rowD S1.l S1.z) 18 .own none) (.cells (itI S1 (S1.l.take (min 1 S1.l.length))) 19 .own none) S.f (plS S1).length (itP (plS S1)) (itP (plS S1)) := by
    unfold hHT1f0
    simp only [e2, Nat.add_zero, eC0, eC1, show ∀ x, intV (some (AV.int IntKind.i64 x)) = x from fun _ => rfl, opq_eq, eD, dipOf_eq, plOf_eq, u0, eP, ePD, u1, c0, cA, cB, List.take_length, hW, hS1, hC0, pz]
    rw [← itP_plS]
    rfl
  have row : qround Try.prog tHT 100 4 [(53, .bool true), (76, .bool false), (133, .bool false), (156, .bool false)] lsHT HT1 mHT1 (vHT1 S.f z.length i) (htH z S) = some (.norm, vHT1 S.f z.length ((i + 1 : Nat) : Int), hHT1f0 S.f (prC z) (esG S.G) S.c S.l.length S.z (rowD S.l S.z) (plS S).length (itP (plS S)) z.length i) := by
    refine (nfHT1f ..).trans ?_
    rw [eH]
    simp only [e2, Nat.add_zero, eC0, eC1, show ∀ x, intV (some (AV.int IntKind.i64 x)) = x from fun _ => rfl, opq_eq, eD, dipOf_eq, plOf_eq, u0, eP, ePD, u1, c0, cA, cB, List.take_length, hW, hS1, hC0, pz, e5]
    generalize hHT2 (.cells (prC z) 2 .far none) _ _ _ _ _ _ _ _ _ _ _ = HH at *
    rw [hlen] at LS
    repeat (first | (refine (if_pos ?_).trans ?_; · first | rfl | exact AV.beq_self _ | omega | exact ⟨by simp, cells_isCell _⟩ | exact ⟨by simp, rfl⟩ | exact cdec_true.2 ⟨by decide, by decide, by decide, T0⟩ | exact cdec_true.2 ⟨by decide, by decide, by decide, T1⟩ | exact cdec_true.2 ⟨by decide, R0⟩ | exact cdec_true.2 ⟨by decide, R1⟩ | exact cdec_true.2 ⟨by decide, by decide, by decide, A1⟩ | exact cdec_true.2 ⟨by decide, by decide, by decide, A2⟩ | exact cdec_true.2 LS | (simp; done) | (simp; omega)) | (refine (if_neg ?_).trans ?_; · first | decide | (simp; done) | (simp; omega)))
    rfl
  refine ⟨_, _, row, ?_⟩
  rw [eH]
  unfold htH
  rw [f1]
  exact Gc.by [0, 1, 2, 3, 7, 8] rfl (by decide) (.cons _ _ _ _ (.free _ rfl) (.cons _ _ _ _ (.sl _ _ _ _ _ _ rfl) (.cons _ _ _ _ (.ptr _ _ _ rfl) (.cons _ _ _ _ (.ptr _ _ _ rfl) (.free _ rfl)))))
    (.cons _ _ _ _ _ rfl (.row (prC_frees _) (by simp)) (.cons _ _ _ _ _ rfl (.mp _ _ _ _ _ (.free _ (gd_free H1.gd))) (.cons _ _ _ _ _ rfl (.cells _ _ _ _ _ _ (.cons _ _ _ _ (.free _ rfl) (.cons _ _ _ _ (.map _ _ rfl) (.cons _ _ _ _ (.sl _ _ _ _ _ _ rfl) .nil))) (by simp)) (.cons _ _ _ _ _ rfl (.cells _ _ _ _ _ _ (.cons _ _ _ _ (.free _ rfl) (.cons _ _ _ _ (.sl _ _ _ _ _ _ rfl) .nil)) (by simp)) (.cons _ _ _ _ _ rfl (.row (rowD_frees _ _) (by simp)) (.cons _ _ _ _ _ rfl (.row (itP_frees _) (by simp)) .nil))))))

theorem runHealthTells (f : Int) (rows : List (List AV)) (hf : -9223372036854775808 ≤ f ∧ f < 9223372036854775808) (hr : ∀ r ∈ rows, FitsK [.int .i64, .int .i64] r) (_ : rows.length ≤ maxLen) : ∃ h', Runs Try.prog 3 [.int .i64 f, .sl (some (0, 0)) rows.length 0 false] [.cells rows.flatten 2 .far none] (.bool true) h' := by
  obtain ⟨z, hz1, hz2⟩ := rows_pairs hr
  rw [hz1, ← hz2]
  by_cases hb : 80 < z.length
  · exact Runs.valT0 tHTOk (F := 100) (n := 4) (pr := [(19, .bool true)]) ((nfHTl f z.length _ _).trans (if_pos (by simp; omega)))
  have hz : z.length ≤ 80 := by omega
  by_cases hf2 : f < 1 ∨ 10 < f
  · refine Runs.valT0 tHTOk (F := 100) (n := 4) (pr := [(19, .bool false), (31, .bool true)]) ((nfHTb f z.length _ _).trans ?_)
    refine (if_pos (by simp; omega)).trans ?_
    by_cases h1 : f < 1
    · have d1 : decide (f < 1) = true := decide_eq_true h1
      exact (if_pos d1).trans (if_pos d1)
    · have d1 : ¬ decide (f < 1) = true := by simp; omega
      have d2 : decide (f > 10) = true := decide_eq_true (by omega)
      exact (if_neg d1).trans ((if_pos d2).trans ((if_neg d1).trans (if_pos d2)))
  have hS : (htS f z z.length).f = f := htS_f f z _
  have k1 : True → ∃ vs2 h2, Pre 4 (vHT1 f z.length 0) (hHTz f (prC z)) vs2 h2 ∧ ∃ k, GReach (roundG Try.prog (deepT Try.prog tHT 100 4) (lsT lsHT) HT1 mHT1) 4 k vs2 h2 (.exit 0) (vHT1 f z.length z.length) (htH z (htS f z z.length)) := by
    intro _
    refine ⟨(htSt f z 0).1, (htSt f z 0).2, ?_, ?_⟩
    · refine .gc _ _ (vHT1 f z.length 0) [.cells (prC z) 2 .far none, .mp [] 0 true, .cells [.int .i64 f, .map (some 1), .sl none 0 0 true] 3 .own none, .cells [.int .i64 f, .sl none 0 0 true] 2 .own none] _ _ (Gc.by [0, 1, 2, 3] rfl (by decide) (.cons _ _ _ _ (.free _ rfl) (.cons _ _ _ _ (.sl _ _ _ _ _ _ rfl) (.cons _ _ _ _ (.ptr _ _ _ rfl) (.cons _ _ _ _ (.ptr _ _ _ rfl) (.free _ rfl)))))
        (.cons _ _ _ _ _ rfl (.row (prC_frees _) (by simp)) (.cons _ _ _ _ _ rfl (.mp _ _ _ _ _ .nil) (.cons _ _ _ _ _ rfl (.cells _ _ _ _ _ _ (.cons _ _ _ _ (.free _ rfl) (.cons _ _ _ _ (.map _ _ rfl) (.free _ rfl))) (by simp)) (.cons _ _ _ _ _ rfl (.row rfl (by simp)) .nil))))) ?_
      refine .void 18 _ _ _ _ _ _ (NRs.refl _) (.cons _ _ _ _ (.same _) (.cons _ _ _ _ (.same _) (.cons _ _ _ _ (.cells _ _ _ _ _ (.same _ _ _ (.same _ _ _ (.void _ _ _ .nil)))) (.cons _ _ _ _ (.same _) (.cons _ _ _ _ (.same _) .nil))))) ?_
      exact .void 19 _ _ _ _ _ _ (NRs.refl _) (.cons _ _ _ _ (.same _) (.cons _ _ _ _ (.same _) (.cons _ _ _ _ (.same _) (.cons _ _ _ _ (.cells _ _ _ _ _ (.same _ _ _ (.void _ _ _ .nil))) (.cons _ _ _ _ (.same _) (.cons _ _ _ _ (.same _) .nil)))))) (.done _ _)
    · rw [show vHT1 f z.length z.length = (htSt f z z.length).1 by unfold htSt; rw [hS]]
      refine loop_T (htSt f z) (N := z.length) (by simp) (fun i hi => ?_) ⟨[(53, .bool false)], _, _, (nfHT1s ..).trans (if_pos (by simp)), Gc.refl⟩
      have oki := (htS_ok f z i).up (show i ≤ 1000 by omega)
      have e1 : (htS f z (i + 1)).f = (htS f z i).f := by rw [htS_f, htS_f]
      have eg : z.getD i (0, 0) = z[i] := by simp [List.getD, List.getElem?_eq_getElem hi]
      have e2 : htS f z (i + 1) = telS (htS f z i) (htDip z[i].1) (htW z[i].2) := by rw [htS, eg]
      unfold htSt
      rw [e1, e2]
      by_cases h11 : z[i].1.tmod 11 = 10
      · have := stepHTt (b := z[i].2) oki hz hi rfl rfl h11
        unfold htDip; rw [if_pos h11]
        exact ⟨_, this⟩
      · have := stepHTf (b := z[i].2) oki hz hi rfl rfl h11
        unfold htDip; rw [if_neg h11]
        exact ⟨_, this⟩
  have lp : loopsOf (bodyOf Try.prog 3) = [HT1] := by kernel_rfl
  generalize htS f z z.length = S at *
  have eh : htH z S = hHT f (prC z) (esG S.G) S.c S.l.length S.z (rowD S.l S.z) (plS S).length (itP (plS S)) := by unfold htH; rw [hS]
  rw [eh] at k1
  refine Runs.valT tHTOk (F := 100) (n := 4) (pr := [(19, .bool false), (31, .bool false), (46, .bool false)]) (only (k := 10) lp (fixP_T tHTOk (F := 100) (n := 4) (LS := lsHT) lsHTOk k1)) ?_
  refine (nfHTm True f _ _ _ _ _ _ _ _ z.length _).trans ?_
  refine (if_pos (by simp; omega)).trans ?_
  refine (if_neg (by simp; omega)).trans ?_
  refine (if_neg (by simp; omega)).trans ?_
  refine (if_neg (by simp; omega)).trans ?_
  refine (if_pos (by simp; omega)).trans ?_
  exact if_pos (cdec_true.2 ⟨trivial, rfl, rfl⟩)


end Go.Proofs.Ytpghomcohejejaa.L
