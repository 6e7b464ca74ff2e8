/- encap.In. -/
import Derived.Test.YtjkkhbeidhpghaaEncInN
import Derived.Test.YtjkkhbeidhpghaaFrmAll
set_option autoImplicit false
set_option maxRecDepth 100000
set_option linter.unusedVariables false
set_option linter.unusedSimpArgs false
namespace Go.Proofs.Ytjkkhbeidhpghaa.L
open Go Go.Abs

theorem zrep_one (n : Nat) : zrep n [AV.int .u8 0] = bys (List.replicate n 0) := by
  unfold zrep
  induction n with
  | zero => rfl
  | succ n ih => rw [List.replicate_succ, List.flatten_cons, ih, List.replicate_succ]; rfl
theorem bysTakeL (l : List UInt8) : List.take (l.length * 1) (bys l) = bys l := bys_full l
theorem cutL {l : List UInt8} {A n : Nat} : List.take (n * 1) (List.drop (0 + A * 1) (bys l)) = bys ((l.drop A).take n) := by simp
theorem putApp {P xs : List UInt8} {n k : Nat} (h : xs.length ≤ n) (hk : k = P.length) : putCells (bys (P ++ List.replicate n 0)) k (bys xs) = bys (P ++ xs ++ List.replicate (n - xs.length) 0) := by
  subst hk
  rw [putCells_bytes _ _ _ (by simp; omega), List.take_left, List.drop_append, List.drop_of_length_le (by omega), List.drop_replicate, show P.length + xs.length - P.length = xs.length by omega, List.nil_append]
theorem cat3 {X Y Z : List UInt8} {N i j : Nat} (hN : N = X.length + Y.length + Z.length) (hi : i = X.length) (hj : j = X.length + Y.length) : putCells (putCells (putCells (zrep N [AV.int .u8 0]) 0 (bys X)) i (bys Y)) j (bys Z) = bys (X ++ Y ++ Z) := by
  subst hN
  rw [zrep_one, show List.replicate (X.length + Y.length + Z.length) (0 : UInt8) = [] ++ List.replicate (X.length + Y.length + Z.length) 0 from rfl, putApp (P := []) (xs := X) (k := 0) (by omega) rfl, List.nil_append, putApp (P := X) (xs := Y) (by omega) hi, putApp (P := X ++ Y) (xs := Z) (by omega) (by rw [hj]; simp), show X.length + Y.length + Z.length - X.length - Y.length - Z.length = 0 by omega]
  simp
theorem denP {h1 : AHeap} {n0 m k o n r : Nat} {vs : List AV} {l L : List UInt8} {par : Option Nat} (hk : n0 ≤ k) (hb : h1[k]? = some (.cells vs 1 .own par)) (hv : vs = bys l) (hn : o + (n + r) ≤ l.length) (h0 : n ≠ 0) (hL : (l.drop o).take n = L) : Den h1 n0 m [some k] (.sl (some (k, o)) n r false) (slB m L) [ownB L] := by
  subst hv hL
  have := Den.row (h1 := h1) (n0 := n0) m k o n r false (bys l) 1 par hk (by omega) hb ⟨by simp [capOf], by simp [capOf]; omega⟩ (fun h => absurd h h0) (by simp)
  have e : ((bys l).drop o).take (n * 1) = bys ((l.drop o).take n) := by simp
  rw [e] at this
  have e2 : ((l.drop o).take n).length = n := by simp; omega
  unfold slB ownB
  rw [e2]; exact this
def kdOf (d6 : Bool) : Int := if d6 = true then 34525 else 2048
def mkO (d6 : Bool) (m p n : Int) : List UInt8 := if d6 = true then make6 (dAdr true 150) (dAdr true m) p n else make4 (dAdr false 150) (dAdr false m) p n
def inF (l : List UInt8) (v d6 : Bool) (m A E : Int) : List UInt8 := withR l (kdOf d6) ++ mkO d6 m (if v = true then 41 else 4) (E - A) ++ (l.drop A.toNat).take (E.toNat - A.toNat)
inductive InR : List AV → AHeap → AV → AHeap → Prop
  | ok (l : List UInt8) (v d6 : Bool) (m n A S E p sp dp fl : Int) (h : AHeap) (a : AV) (k : Nat) (g : bOk h a = true ∧ bOf h a = l) (hl : l.length ≤ 65535) (hv : vRead l = .tup [.agg (viewOf v A S E p (kSrc v n) (kDst v) sp dp fl), .int .i64 0])
      (hn : (netR l).2.2 = 0 ∧ (netR l).1 = A) (hE : A < E ∧ E ≤ l.length) (hs : A + frH d6 + (E - A) ≤ 65535) (hk : h.length = k) : InR [a, .agg (dAdr false 150), .agg (dAdr true 150), .agg (dAdr d6 m)] h (.tup [slB k (inF l v d6 m A E), .int .i64 0]) [ownB (inF l v d6 m A E)]
  | big (l : List UInt8) (v d6 : Bool) (m n A S E p sp dp fl : Int) (h : AHeap) (a : AV) (k : Nat) (g : bOk h a = true ∧ bOf h a = l) (hl : l.length ≤ 65535) (hv : vRead l = .tup [.agg (viewOf v A S E p (kSrc v n) (kDst v) sp dp fl), .int .i64 0])
      (hn : 0 ≤ A ∧ A ≤ 18) (hE : A < E ∧ E ≤ l.length) (hs : 65535 < A + frH d6 + (E - A)) (hk : h.length = k) : InR [a, .agg (dAdr false 150), .agg (dAdr true 150), .agg (dAdr d6 m)] h (.tup [slB k [], .int .i64 9]) [ownB []]
  | no (l : List UInt8) (d6 : Bool) (m r : Int) (h : AHeap) (a : AV) (k : Nat) (g : bOk h a = true ∧ bOf h a = l) (hl : l.length ≤ 65535) (hv : vRead l = .tup [.agg view0, .int .i64 r]) (h0 : r ≠ 0) (hk : h.length = k) :
      InR [a, .agg (dAdr false 150), .agg (dAdr true 150), .agg (dAdr d6 m)] h (.tup [slB k [], .int .i64 r]) [ownB []]
theorem dAdr_wf (v : Bool) (m : Int) : adrWf (dAdr v m) = true := by rw [dAdr_B]; exact adrB_wf rfl
theorem sayWi {h : AHeap} {a : AV} {l L : List UInt8} {kd : Int} {k : Nat} (g : bOk h a = true ∧ bOf h a = l) (hn : nOf a ≤ 1000000000) (hkd : 0 ≤ kd ∧ kd < 65536) (hL : withR l kd = L) (hk : h.length = k) : Says eWith [a, .int .u16 kd] h (slB k L) [ownB L] := ⟨by
  show some (bOk h a && decide (nOf a ≤ 1000000000 ∧ 0 ≤ kd ∧ kd < 65536), slB h.length (withR (bOf h a) kd), h ++ [ownB (withR (bOf h a) kd)]) = _
  rw [g.1, g.2, hL, hk, decide_eq_true ⟨hn, hkd⟩]; rfl⟩
theorem withR_cons {l : List UInt8} {k A : Int} (h : (netR l).2.2 = 0 ∧ (netR l).1 = A) : ∃ a W, withR l k = a :: W ∧ ((a :: W).length : Int) = A ∧ 14 ≤ A ∧ A ≤ 18 ∧ A ≤ l.length := by
  obtain ⟨B, hB, hB2, hBl, _⟩ := net_at h.1
  have hl : ((withR l k).length : Int) = A := by
    unfold withR; rw [if_pos h.1, hB]; simp; omega
  cases hw : withR l k with
  | nil => rw [hw] at hl; simp at hl; omega
  | cons a W => exact ⟨a, W, rfl, by rw [← hw]; exact hl, by omega, by omega, by omega⟩
theorem mkO_cons {d6 : Bool} {m p n : Int} (h : 0 ≤ n ∧ n ≤ 65515) : (∃ b M, mkO d6 m p n = b :: M ∧ (b :: M).length = frH d6) ∧ (d6 = false → makes4 (dAdr false 150) (dAdr false m) n) ∧ (d6 = true → makes6 (dAdr true 150) (dAdr true m) n) := by
  have h4 : makes4 (dAdr false 150) (dAdr false m) n := by rw [dAdr_B, dAdr_B]; exact ⟨rfl, rfl, h.1, h.2⟩
  have h6 : makes6 (dAdr true 150) (dAdr true m) n := by rw [dAdr_B, dAdr_B]; exact ⟨rfl, rfl, by omega, by omega⟩
  refine ⟨?_, fun _ => h4, fun _ => h6⟩
  have hl : (mkO d6 m p n).length = frH d6 := by
    cases d6
    · unfold mkO make4; rw [if_neg (by simp), if_pos h4, dAdr_B, dAdr_B, adrB_F, adrB_F]; rfl
    · unfold mkO make6; rw [if_pos rfl, if_pos h6, dAdr_B, dAdr_B, adrB_T, adrB_T]; rfl
  cases hw : mkO d6 m p n with
  | nil => rw [hw] at hl; cases d6 <;> simp [frH] at hl
  | cons a W => exact ⟨a, W, rfl, by rw [← hw]; exact hl⟩

theorem inRunFF (l M W OUT : List UInt8) (a b : UInt8) (m n A S E p sp dp fl : Int) (hl : l.length ≤ 65535) (hv : vRead l = (.tup [.agg (viewOf false A S E p (kSrc false n) (kDst false) sp dp fl), .int .i64 0])) (hE : A < E ∧ E ≤ l.length) (hA : 14 ≤ A ∧ A ≤ 18) (hs : A + 20 + (E - A) ≤ 65535)
    (hW : withR l 2048 = a :: W) (hLA : ((a :: W).length : Int) = A) (hM : make4 (dAdr false 150) (dAdr false m) 4 (E - A) = b :: M) (hLB : (b :: M).length = 20) (hm4 : false = false → makes4 (dAdr false 150) (dAdr false m) (E - A))
    (hO : OUT = (a :: W) ++ (b :: M) ++ (l.drop A.toNat).take (E.toNat - A.toNat)) :
    ∃ v1 h1, Runs Try.prog 11 [slB 0 l, .agg (dAdr false 150), .agg (dAdr true 150), .agg (dAdr false m)] [farB l] v1 h1 ∧ ∃ ks, ∀ K, Den h1 1 K ks v1 (.tup [slB K OUT, .int .i64 0]) [ownB OUT] ∧ KsOk ks := by
  have hEA : ((((intV (some (AV.int IntKind.i64 E))).toNat - (intV (some (AV.int IntKind.i64 A))).toNat) : Nat) : Int) = E - A := by simp only [intV]; omega
  have hC : ((l.drop A.toNat).take (E.toNat - A.toNat)).length = E.toNat - A.toNat := by rw [List.length_take, List.length_drop]; omega
  refine ⟨(AV.tup [AV.sl (some (10, 0)) (0 + (a :: W).length + (b :: M).length + ((iv E).toNat - (iv A).toNat)) (roomOf (nT (a :: W).length (b :: M).length ((iv E).toNat - (iv A).toNat)) 0 0 false 0 false - (a :: W).length - (b :: M).length - ((iv E).toNat - (iv A).toNat)) false, AV.int IntKind.i64 0]), (hInFF10 l M W a b m n A S E p sp dp fl), Runs.ofT0 (tInOk (.tup [.agg (viewOf false A S E p (kSrc false n) (kDst false) sp dp fl), .int .i64 0]) .nilFn .nilFn (b :: M) (a :: W)) (F := 100) (n := 5) (pr := [(24, .bool false), (61, .bool false)]) ?_, [some 10], fun K => ⟨?_, ksOk1 _⟩⟩
  · refine (nfInFF l M W a b m n A S E p sp dp fl _).trans ?_
    refine (if_pos (cdec_true.2 (sayRead (bOk_row rfl rfl rfl) (by show l.length ≤ _; omega) hv))).trans ?_
    repeat (first | (refine (if_pos ?_).trans ?_; · (repeat' apply And.intro) <;> first | omega | (simp (disch := omega) only [iv, w6, nT, tk, intV, wrapI64, roomOf, capOf_f, zrep_one, List.length_replicate, putCells_len, bys_length, bysTakeL, cutL, List.length_take, List.length_drop, Int.toNat_natCast, decide_eq_true_eq, decide_eq_false_iff_not] <;> omega) | (simp (disch := omega) only [iv, w6, nT, tk, intV, wrapI64, roomOf, capOf_f, zrep_one, List.length_replicate, putCells_len, bys_length, bysTakeL, cutL, List.length_take, List.length_drop, Int.toNat_natCast, decide_eq_true_eq, decide_eq_false_iff_not]; done) | (simp; done)) | (refine (if_neg ?_).trans ?_; · first | omega | (simp (disch := omega) only [iv, w6, nT, tk, intV, wrapI64, roomOf, capOf_f, zrep_one, List.length_replicate, putCells_len, bys_length, bysTakeL, cutL, List.length_take, List.length_drop, Int.toNat_natCast, decide_eq_true_eq, decide_eq_false_iff_not] <;> omega) | (simp (disch := omega) only [iv, w6, nT, tk, intV, wrapI64, roomOf, capOf_f, zrep_one, List.length_replicate, putCells_len, bys_length, bysTakeL, cutL, List.length_take, List.length_drop, Int.toNat_natCast, decide_eq_true_eq, decide_eq_false_iff_not]; done)))
    refine (if_pos (cdec_true.2 (say4Mk (cs := dAdr false 150) (ds := dAdr false m) (dAdr_wf _ _) (dAdr_wf _ _) (by decide) (by rw [hEA]; exact hm4 rfl) (by rw [hEA]; exact hM) rfl))).trans ?_
    refine (if_pos (cdec_true.2 (sayWi (l := l) (bOk_row rfl rfl rfl) (by show l.length ≤ _; omega) (by decide) hW rfl))).trans ?_
    repeat (first | (refine (if_pos ?_).trans ?_; · (repeat' apply And.intro) <;> first | omega | (simp (disch := omega) only [iv, w6, nT, tk, intV, wrapI64, roomOf, capOf_f, zrep_one, List.length_replicate, putCells_len, bys_length, bysTakeL, cutL, List.length_take, List.length_drop, Int.toNat_natCast, decide_eq_true_eq, decide_eq_false_iff_not] <;> omega) | (simp (disch := omega) only [iv, w6, nT, tk, intV, wrapI64, roomOf, capOf_f, zrep_one, List.length_replicate, putCells_len, bys_length, bysTakeL, cutL, List.length_take, List.length_drop, Int.toNat_natCast, decide_eq_true_eq, decide_eq_false_iff_not]; done) | (simp; done)) | (refine (if_neg ?_).trans ?_; · first | omega | (simp (disch := omega) only [iv, w6, nT, tk, intV, wrapI64, roomOf, capOf_f, zrep_one, List.length_replicate, putCells_len, bys_length, bysTakeL, cutL, List.length_take, List.length_drop, Int.toNat_natCast, decide_eq_true_eq, decide_eq_false_iff_not] <;> omega) | (simp (disch := omega) only [iv, w6, nT, tk, intV, wrapI64, roomOf, capOf_f, zrep_one, List.length_replicate, putCells_len, bys_length, bysTakeL, cutL, List.length_take, List.length_drop, Int.toNat_natCast, decide_eq_true_eq, decide_eq_false_iff_not]; done)))
    rfl
  · have hT : nT (a :: W).length (b :: M).length ((iv E).toNat - (iv A).toNat) = (a :: W).length + (b :: M).length + (E.toNat - A.toNat) := by
      simp (disch := omega) only [nT, w6, iv, intV, wrapI64]
      omega
    have hOL : OUT.length = (a :: W).length + (b :: M).length + (E.toNat - A.toNat) := by rw [hO, List.length_append, List.length_append, hC]
    have hn : (0 + (a :: W).length + (b :: M).length + ((intV (some (AV.int IntKind.i64 E))).toNat - (intV (some (AV.int IntKind.i64 A))).toNat)) = OUT.length := by rw [hOL]; simp only [intV]; omega
    refine .tup _ _ _ _ _ (.cons _ [some 10] [] _ _ _ _ [ownB OUT] [] (denP (l := OUT) (by decide) rfl ?_ ?_ ?_ ?_) (.cons _ [] [] _ _ _ _ [] [] (.flat _ _ rfl) (.nil _)))
    · rw [hT]
      simp only [iv, intV, tk]
      rw [bysTakeL, bysTakeL, cutL, cat3 (by rw [hC]) (by omega) (by omega), hO]
    · rw [hT, hn, hOL]; simp only [roomOf, iv, intV]; omega
    · rw [hn, hOL]; omega
    · rw [hn, List.drop_zero, List.take_length]

theorem inRunFT (l M W OUT : List UInt8) (a b : UInt8) (m n A S E p sp dp fl : Int) (hl : l.length ≤ 65535) (hv : vRead l = (.tup [.agg (viewOf false A S E p (kSrc false n) (kDst false) sp dp fl), .int .i64 0])) (hE : A < E ∧ E ≤ l.length) (hA : 14 ≤ A ∧ A ≤ 18) (hs : A + 40 + (E - A) ≤ 65535)
    (hW : withR l 34525 = a :: W) (hLA : ((a :: W).length : Int) = A) (hM : make6 (dAdr true 150) (dAdr true m) 4 (E - A) = b :: M) (hLB : (b :: M).length = 40) (hm6 : true = true → makes6 (dAdr true 150) (dAdr true m) (E - A))
    (hO : OUT = (a :: W) ++ (b :: M) ++ (l.drop A.toNat).take (E.toNat - A.toNat)) :
    ∃ v1 h1, Runs Try.prog 11 [slB 0 l, .agg (dAdr false 150), .agg (dAdr true 150), .agg (dAdr true m)] [farB l] v1 h1 ∧ ∃ ks, ∀ K, Den h1 1 K ks v1 (.tup [slB K OUT, .int .i64 0]) [ownB OUT] ∧ KsOk ks := by
  have hEA : ((((intV (some (AV.int IntKind.i64 E))).toNat - (intV (some (AV.int IntKind.i64 A))).toNat) : Nat) : Int) = E - A := by simp only [intV]; omega
  have hC : ((l.drop A.toNat).take (E.toNat - A.toNat)).length = E.toNat - A.toNat := by rw [List.length_take, List.length_drop]; omega
  refine ⟨(AV.tup [AV.sl (some (10, 0)) (0 + (a :: W).length + (b :: M).length + ((iv E).toNat - (iv A).toNat)) (roomOf (nT (a :: W).length (b :: M).length ((iv E).toNat - (iv A).toNat)) 0 0 false 0 false - (a :: W).length - (b :: M).length - ((iv E).toNat - (iv A).toNat)) false, AV.int IntKind.i64 0]), (hInFT10 l M W a b m n A S E p sp dp fl), Runs.ofT0 (tInOk (.tup [.agg (viewOf false A S E p (kSrc false n) (kDst false) sp dp fl), .int .i64 0]) .nilFn .nilFn (b :: M) (a :: W)) (F := 100) (n := 5) (pr := [(24, .bool false), (61, .bool false)]) ?_, [some 10], fun K => ⟨?_, ksOk1 _⟩⟩
  · refine (nfInFT l M W a b m n A S E p sp dp fl _).trans ?_
    refine (if_pos (cdec_true.2 (sayRead (bOk_row rfl rfl rfl) (by show l.length ≤ _; omega) hv))).trans ?_
    repeat (first | (refine (if_pos ?_).trans ?_; · (repeat' apply And.intro) <;> first | omega | (simp (disch := omega) only [iv, w6, nT, tk, intV, wrapI64, roomOf, capOf_f, zrep_one, List.length_replicate, putCells_len, bys_length, bysTakeL, cutL, List.length_take, List.length_drop, Int.toNat_natCast, decide_eq_true_eq, decide_eq_false_iff_not] <;> omega) | (simp (disch := omega) only [iv, w6, nT, tk, intV, wrapI64, roomOf, capOf_f, zrep_one, List.length_replicate, putCells_len, bys_length, bysTakeL, cutL, List.length_take, List.length_drop, Int.toNat_natCast, decide_eq_true_eq, decide_eq_false_iff_not]; done) | (simp; done)) | (refine (if_neg ?_).trans ?_; · first | omega | (simp (disch := omega) only [iv, w6, nT, tk, intV, wrapI64, roomOf, capOf_f, zrep_one, List.length_replicate, putCells_len, bys_length, bysTakeL, cutL, List.length_take, List.length_drop, Int.toNat_natCast, decide_eq_true_eq, decide_eq_false_iff_not] <;> omega) | (simp (disch := omega) only [iv, w6, nT, tk, intV, wrapI64, roomOf, capOf_f, zrep_one, List.length_replicate, putCells_len, bys_length, bysTakeL, cutL, List.length_take, List.length_drop, Int.toNat_natCast, decide_eq_true_eq, decide_eq_false_iff_not]; done)))
    refine (if_pos (cdec_true.2 (say6Mk (cs := dAdr true 150) (ds := dAdr true m) (dAdr_wf _ _) (dAdr_wf _ _) (by decide) (by rw [hEA]; exact hm6 rfl) (by rw [hEA]; exact hM) rfl))).trans ?_
    refine (if_pos (cdec_true.2 (sayWi (l := l) (bOk_row rfl rfl rfl) (by show l.length ≤ _; omega) (by decide) hW rfl))).trans ?_
    repeat (first | (refine (if_pos ?_).trans ?_; · (repeat' apply And.intro) <;> first | omega | (simp (disch := omega) only [iv, w6, nT, tk, intV, wrapI64, roomOf, capOf_f, zrep_one, List.length_replicate, putCells_len, bys_length, bysTakeL, cutL, List.length_take, List.length_drop, Int.toNat_natCast, decide_eq_true_eq, decide_eq_false_iff_not] <;> omega) | (simp (disch := omega) only [iv, w6, nT, tk, intV, wrapI64, roomOf, capOf_f, zrep_one, List.length_replicate, putCells_len, bys_length, bysTakeL, cutL, List.length_take, List.length_drop, Int.toNat_natCast, decide_eq_true_eq, decide_eq_false_iff_not]; done) | (simp; done)) | (refine (if_neg ?_).trans ?_; · first | omega | (simp (disch := omega) only [iv, w6, nT, tk, intV, wrapI64, roomOf, capOf_f, zrep_one, List.length_replicate, putCells_len, bys_length, bysTakeL, cutL, List.length_take, List.length_drop, Int.toNat_natCast, decide_eq_true_eq, decide_eq_false_iff_not] <;> omega) | (simp (disch := omega) only [iv, w6, nT, tk, intV, wrapI64, roomOf, capOf_f, zrep_one, List.length_replicate, putCells_len, bys_length, bysTakeL, cutL, List.length_take, List.length_drop, Int.toNat_natCast, decide_eq_true_eq, decide_eq_false_iff_not]; done)))
    rfl
  · have hT : nT (a :: W).length (b :: M).length ((iv E).toNat - (iv A).toNat) = (a :: W).length + (b :: M).length + (E.toNat - A.toNat) := by
      simp (disch := omega) only [nT, w6, iv, intV, wrapI64]
      omega
    have hOL : OUT.length = (a :: W).length + (b :: M).length + (E.toNat - A.toNat) := by rw [hO, List.length_append, List.length_append, hC]
    have hn : (0 + (a :: W).length + (b :: M).length + ((intV (some (AV.int IntKind.i64 E))).toNat - (intV (some (AV.int IntKind.i64 A))).toNat)) = OUT.length := by rw [hOL]; simp only [intV]; omega
    refine .tup _ _ _ _ _ (.cons _ [some 10] [] _ _ _ _ [ownB OUT] [] (denP (l := OUT) (by decide) rfl ?_ ?_ ?_ ?_) (.cons _ [] [] _ _ _ _ [] [] (.flat _ _ rfl) (.nil _)))
    · rw [hT]
      simp only [iv, intV, tk]
      rw [bysTakeL, bysTakeL, cutL, cat3 (by rw [hC]) (by omega) (by omega), hO]
    · rw [hT, hn, hOL]; simp only [roomOf, iv, intV]; omega
    · rw [hn, hOL]; omega
    · rw [hn, List.drop_zero, List.take_length]

theorem inRunTF (l M W OUT : List UInt8) (a b : UInt8) (m n A S E p sp dp fl : Int) (hl : l.length ≤ 65535) (hv : vRead l = (.tup [.agg (viewOf true A S E p (kSrc true n) (kDst true) sp dp fl), .int .i64 0])) (hE : A < E ∧ E ≤ l.length) (hA : 14 ≤ A ∧ A ≤ 18) (hs : A + 20 + (E - A) ≤ 65535)
    (hW : withR l 2048 = a :: W) (hLA : ((a :: W).length : Int) = A) (hM : make4 (dAdr false 150) (dAdr false m) 41 (E - A) = b :: M) (hLB : (b :: M).length = 20) (hm4 : false = false → makes4 (dAdr false 150) (dAdr false m) (E - A))
    (hO : OUT = (a :: W) ++ (b :: M) ++ (l.drop A.toNat).take (E.toNat - A.toNat)) :
    ∃ v1 h1, Runs Try.prog 11 [slB 0 l, .agg (dAdr false 150), .agg (dAdr true 150), .agg (dAdr false m)] [farB l] v1 h1 ∧ ∃ ks, ∀ K, Den h1 1 K ks v1 (.tup [slB K OUT, .int .i64 0]) [ownB OUT] ∧ KsOk ks := by
  have hEA : ((((intV (some (AV.int IntKind.i64 E))).toNat - (intV (some (AV.int IntKind.i64 A))).toNat) : Nat) : Int) = E - A := by simp only [intV]; omega
  have hC : ((l.drop A.toNat).take (E.toNat - A.toNat)).length = E.toNat - A.toNat := by rw [List.length_take, List.length_drop]; omega
  refine ⟨(AV.tup [AV.sl (some (10, 0)) (0 + (a :: W).length + (b :: M).length + ((iv E).toNat - (iv A).toNat)) (roomOf (nT (a :: W).length (b :: M).length ((iv E).toNat - (iv A).toNat)) 0 0 false 0 false - (a :: W).length - (b :: M).length - ((iv E).toNat - (iv A).toNat)) false, AV.int IntKind.i64 0]), (hInTF10 l M W a b m n A S E p sp dp fl), Runs.ofT0 (tInOk (.tup [.agg (viewOf true A S E p (kSrc true n) (kDst true) sp dp fl), .int .i64 0]) .nilFn .nilFn (b :: M) (a :: W)) (F := 100) (n := 5) (pr := [(24, .bool false), (61, .bool false)]) ?_, [some 10], fun K => ⟨?_, ksOk1 _⟩⟩
  · refine (nfInTF l M W a b m n A S E p sp dp fl _).trans ?_
    refine (if_pos (cdec_true.2 (sayRead (bOk_row rfl rfl rfl) (by show l.length ≤ _; omega) hv))).trans ?_
    repeat (first | (refine (if_pos ?_).trans ?_; · (repeat' apply And.intro) <;> first | omega | (simp (disch := omega) only [iv, w6, nT, tk, intV, wrapI64, roomOf, capOf_f, zrep_one, List.length_replicate, putCells_len, bys_length, bysTakeL, cutL, List.length_take, List.length_drop, Int.toNat_natCast, decide_eq_true_eq, decide_eq_false_iff_not] <;> omega) | (simp (disch := omega) only [iv, w6, nT, tk, intV, wrapI64, roomOf, capOf_f, zrep_one, List.length_replicate, putCells_len, bys_length, bysTakeL, cutL, List.length_take, List.length_drop, Int.toNat_natCast, decide_eq_true_eq, decide_eq_false_iff_not]; done) | (simp; done)) | (refine (if_neg ?_).trans ?_; · first | omega | (simp (disch := omega) only [iv, w6, nT, tk, intV, wrapI64, roomOf, capOf_f, zrep_one, List.length_replicate, putCells_len, bys_length, bysTakeL, cutL, List.length_take, List.length_drop, Int.toNat_natCast, decide_eq_true_eq, decide_eq_false_iff_not] <;> omega) | (simp (disch := omega) only [iv, w6, nT, tk, intV, wrapI64, roomOf, capOf_f, zrep_one, List.length_replicate, putCells_len, bys_length, bysTakeL, cutL, List.length_take, List.length_drop, Int.toNat_natCast, decide_eq_true_eq, decide_eq_false_iff_not]; done)))
    refine (if_pos (cdec_true.2 (say4Mk (cs := dAdr false 150) (ds := dAdr false m) (dAdr_wf _ _) (dAdr_wf _ _) (by decide) (by rw [hEA]; exact hm4 rfl) (by rw [hEA]; exact hM) rfl))).trans ?_
    refine (if_pos (cdec_true.2 (sayWi (l := l) (bOk_row rfl rfl rfl) (by show l.length ≤ _; omega) (by decide) hW rfl))).trans ?_
    repeat (first | (refine (if_pos ?_).trans ?_; · (repeat' apply And.intro) <;> first | omega | (simp (disch := omega) only [iv, w6, nT, tk, intV, wrapI64, roomOf, capOf_f, zrep_one, List.length_replicate, putCells_len, bys_length, bysTakeL, cutL, List.length_take, List.length_drop, Int.toNat_natCast, decide_eq_true_eq, decide_eq_false_iff_not] <;> omega) | (simp (disch := omega) only [iv, w6, nT, tk, intV, wrapI64, roomOf, capOf_f, zrep_one, List.length_replicate, putCells_len, bys_length, bysTakeL, cutL, List.length_take, List.length_drop, Int.toNat_natCast, decide_eq_true_eq, decide_eq_false_iff_not]; done) | (simp; done)) | (refine (if_neg ?_).trans ?_; · first | omega | (simp (disch := omega) only [iv, w6, nT, tk, intV, wrapI64, roomOf, capOf_f, zrep_one, List.length_replicate, putCells_len, bys_length, bysTakeL, cutL, List.length_take, List.length_drop, Int.toNat_natCast, decide_eq_true_eq, decide_eq_false_iff_not] <;> omega) | (simp (disch := omega) only [iv, w6, nT, tk, intV, wrapI64, roomOf, capOf_f, zrep_one, List.length_replicate, putCells_len, bys_length, bysTakeL, cutL, List.length_take, List.length_drop, Int.toNat_natCast, decide_eq_true_eq, decide_eq_false_iff_not]; done)))
    rfl
  · have hT : nT (a :: W).length (b :: M).length ((iv E).toNat - (iv A).toNat) = (a :: W).length + (b :: M).length + (E.toNat - A.toNat) := by
      simp (disch := omega) only [nT, w6, iv, intV, wrapI64]
      omega
    have hOL : OUT.length = (a :: W).length + (b :: M).length + (E.toNat - A.toNat) := by rw [hO, List.length_append, List.length_append, hC]
    have hn : (0 + (a :: W).length + (b :: M).length + ((intV (some (AV.int IntKind.i64 E))).toNat - (intV (some (AV.int IntKind.i64 A))).toNat)) = OUT.length := by rw [hOL]; simp only [intV]; omega
    refine .tup _ _ _ _ _ (.cons _ [some 10] [] _ _ _ _ [ownB OUT] [] (denP (l := OUT) (by decide) rfl ?_ ?_ ?_ ?_) (.cons _ [] [] _ _ _ _ [] [] (.flat _ _ rfl) (.nil _)))
    · rw [hT]
      simp only [iv, intV, tk]
      rw [bysTakeL, bysTakeL, cutL, cat3 (by rw [hC]) (by omega) (by omega), hO]
    · rw [hT, hn, hOL]; simp only [roomOf, iv, intV]; omega
    · rw [hn, hOL]; omega
    · rw [hn, List.drop_zero, List.take_length]

theorem inRunTT (l M W OUT : List UInt8) (a b : UInt8) (m n A S E p sp dp fl : Int) (hl : l.length ≤ 65535) (hv : vRead l = (.tup [.agg (viewOf true A S E p (kSrc true n) (kDst true) sp dp fl), .int .i64 0])) (hE : A < E ∧ E ≤ l.length) (hA : 14 ≤ A ∧ A ≤ 18) (hs : A + 40 + (E - A) ≤ 65535)
    (hW : withR l 34525 = a :: W) (hLA : ((a :: W).length : Int) = A) (hM : make6 (dAdr true 150) (dAdr true m) 41 (E - A) = b :: M) (hLB : (b :: M).length = 40) (hm6 : true = true → makes6 (dAdr true 150) (dAdr true m) (E - A))
    (hO : OUT = (a :: W) ++ (b :: M) ++ (l.drop A.toNat).take (E.toNat - A.toNat)) :
    ∃ v1 h1, Runs Try.prog 11 [slB 0 l, .agg (dAdr false 150), .agg (dAdr true 150), .agg (dAdr true m)] [farB l] v1 h1 ∧ ∃ ks, ∀ K, Den h1 1 K ks v1 (.tup [slB K OUT, .int .i64 0]) [ownB OUT] ∧ KsOk ks := by
  have hEA : ((((intV (some (AV.int IntKind.i64 E))).toNat - (intV (some (AV.int IntKind.i64 A))).toNat) : Nat) : Int) = E - A := by simp only [intV]; omega
  have hC : ((l.drop A.toNat).take (E.toNat - A.toNat)).length = E.toNat - A.toNat := by rw [List.length_take, List.length_drop]; omega
  refine ⟨(AV.tup [AV.sl (some (10, 0)) (0 + (a :: W).length + (b :: M).length + ((iv E).toNat - (iv A).toNat)) (roomOf (nT (a :: W).length (b :: M).length ((iv E).toNat - (iv A).toNat)) 0 0 false 0 false - (a :: W).length - (b :: M).length - ((iv E).toNat - (iv A).toNat)) false, AV.int IntKind.i64 0]), (hInTT10 l M W a b m n A S E p sp dp fl), Runs.ofT0 (tInOk (.tup [.agg (viewOf true A S E p (kSrc true n) (kDst true) sp dp fl), .int .i64 0]) .nilFn .nilFn (b :: M) (a :: W)) (F := 100) (n := 5) (pr := [(24, .bool false), (61, .bool false)]) ?_, [some 10], fun K => ⟨?_, ksOk1 _⟩⟩
  · refine (nfInTT l M W a b m n A S E p sp dp fl _).trans ?_
    refine (if_pos (cdec_true.2 (sayRead (bOk_row rfl rfl rfl) (by show l.length ≤ _; omega) hv))).trans ?_
    repeat (first | (refine (if_pos ?_).trans ?_; · (repeat' apply And.intro) <;> first | omega | (simp (disch := omega) only [iv, w6, nT, tk, intV, wrapI64, roomOf, capOf_f, zrep_one, List.length_replicate, putCells_len, bys_length, bysTakeL, cutL, List.length_take, List.length_drop, Int.toNat_natCast, decide_eq_true_eq, decide_eq_false_iff_not] <;> omega) | (simp (disch := omega) only [iv, w6, nT, tk, intV, wrapI64, roomOf, capOf_f, zrep_one, List.length_replicate, putCells_len, bys_length, bysTakeL, cutL, List.length_take, List.length_drop, Int.toNat_natCast, decide_eq_true_eq, decide_eq_false_iff_not]; done) | (simp; done)) | (refine (if_neg ?_).trans ?_; · first | omega | (simp (disch := omega) only [iv, w6, nT, tk, intV, wrapI64, roomOf, capOf_f, zrep_one, List.length_replicate, putCells_len, bys_length, bysTakeL, cutL, List.length_take, List.length_drop, Int.toNat_natCast, decide_eq_true_eq, decide_eq_false_iff_not] <;> omega) | (simp (disch := omega) only [iv, w6, nT, tk, intV, wrapI64, roomOf, capOf_f, zrep_one, List.length_replicate, putCells_len, bys_length, bysTakeL, cutL, List.length_take, List.length_drop, Int.toNat_natCast, decide_eq_true_eq, decide_eq_false_iff_not]; done)))
    refine (if_pos (cdec_true.2 (say6Mk (cs := dAdr true 150) (ds := dAdr true m) (dAdr_wf _ _) (dAdr_wf _ _) (by decide) (by rw [hEA]; exact hm6 rfl) (by rw [hEA]; exact hM) rfl))).trans ?_
    refine (if_pos (cdec_true.2 (sayWi (l := l) (bOk_row rfl rfl rfl) (by show l.length ≤ _; omega) (by decide) hW rfl))).trans ?_
    repeat (first | (refine (if_pos ?_).trans ?_; · (repeat' apply And.intro) <;> first | omega | (simp (disch := omega) only [iv, w6, nT, tk, intV, wrapI64, roomOf, capOf_f, zrep_one, List.length_replicate, putCells_len, bys_length, bysTakeL, cutL, List.length_take, List.length_drop, Int.toNat_natCast, decide_eq_true_eq, decide_eq_false_iff_not] <;> omega) | (simp (disch := omega) only [iv, w6, nT, tk, intV, wrapI64, roomOf, capOf_f, zrep_one, List.length_replicate, putCells_len, bys_length, bysTakeL, cutL, List.length_take, List.length_drop, Int.toNat_natCast, decide_eq_true_eq, decide_eq_false_iff_not]; done) | (simp; done)) | (refine (if_neg ?_).trans ?_; · first | omega | (simp (disch := omega) only [iv, w6, nT, tk, intV, wrapI64, roomOf, capOf_f, zrep_one, List.length_replicate, putCells_len, bys_length, bysTakeL, cutL, List.length_take, List.length_drop, Int.toNat_natCast, decide_eq_true_eq, decide_eq_false_iff_not] <;> omega) | (simp (disch := omega) only [iv, w6, nT, tk, intV, wrapI64, roomOf, capOf_f, zrep_one, List.length_replicate, putCells_len, bys_length, bysTakeL, cutL, List.length_take, List.length_drop, Int.toNat_natCast, decide_eq_true_eq, decide_eq_false_iff_not]; done)))
    rfl
  · have hT : nT (a :: W).length (b :: M).length ((iv E).toNat - (iv A).toNat) = (a :: W).length + (b :: M).length + (E.toNat - A.toNat) := by
      simp (disch := omega) only [nT, w6, iv, intV, wrapI64]
      omega
    have hOL : OUT.length = (a :: W).length + (b :: M).length + (E.toNat - A.toNat) := by rw [hO, List.length_append, List.length_append, hC]
    have hn : (0 + (a :: W).length + (b :: M).length + ((intV (some (AV.int IntKind.i64 E))).toNat - (intV (some (AV.int IntKind.i64 A))).toNat)) = OUT.length := by rw [hOL]; simp only [intV]; omega
    refine .tup _ _ _ _ _ (.cons _ [some 10] [] _ _ _ _ [ownB OUT] [] (denP (l := OUT) (by decide) rfl ?_ ?_ ?_ ?_) (.cons _ [] [] _ _ _ _ [] [] (.flat _ _ rfl) (.nil _)))
    · rw [hT]
      simp only [iv, intV, tk]
      rw [bysTakeL, bysTakeL, cutL, cat3 (by rw [hC]) (by omega) (by omega), hO]
    · rw [hT, hn, hOL]; simp only [roomOf, iv, intV]; omega
    · rw [hn, hOL]; omega
    · rw [hn, List.drop_zero, List.take_length]

theorem sIn (L : List (Nat × AV × AHeap)) : SoundE Try.prog 11 (entF (eRel InR L)) := by
  refine relR_sound (fun args h v new hR => ?_) L
  have hd0 : ∀ (v : Bool) (m : Int), AV.free (.agg (dAdr v m)) = true := fun v m => by rw [dAdr_B]; exact adrB_free
  cases hR with
  | ok l v d6 m n A S E p sp dp fl _ a k g hl hv hn hE hs hk =>
    subst hk
    obtain ⟨gb, rfl⟩ := g
    refine ⟨[slB 0 (bOf h a), .agg (dAdr false 150), .agg (dAdr true 150), .agg (dAdr d6 m)], [farB (bOf h a)], .cons _ _ _ _ _ _ _ (bOk_canon gb 0) (.cons _ _ _ _ _ _ _ (.flat _ _ (hd0 _ _)) (.cons _ _ _ _ _ _ _ (.flat _ _ (hd0 _ _)) (.cons _ _ _ _ _ _ _ (.flat _ _ (hd0 _ _)) (.nil _)))), ?_⟩
    generalize bOf h a = l at *
    obtain ⟨w, W, hW, hLA, hA1, hA2, hA3⟩ := withR_cons (k := kdOf d6) hn
    have hH : 20 ≤ frH d6 := by cases d6 <;> decide
    obtain ⟨⟨b, M, hM, hLB⟩, h4, h6⟩ := mkO_cons (d6 := d6) (m := m) (p := if v = true then 41 else 4) (n := E - A) (by omega)
    have hO : inF l v d6 m A E = (w :: W) ++ (b :: M) ++ (l.drop A.toNat).take (E.toNat - A.toNat) := by unfold inF; rw [hW, hM]
    generalize inF l v d6 m A E = OUT at hO
    have fin : (∃ v1 h1, Runs Try.prog 11 [slB 0 l, .agg (dAdr false 150), .agg (dAdr true 150), .agg (dAdr d6 m)] [farB l] v1 h1 ∧ ∃ ks, ∀ K, Den h1 1 K ks v1 (.tup [slB K OUT, .int .i64 0]) [ownB OUT] ∧ KsOk ks) := by
      cases v <;> cases d6
      · exact inRunFF l M W OUT w b m n A S E p sp dp fl hl hv hE ⟨hA1, hA2⟩ hs hW hLA hM hLB h4 hO
      · exact inRunFT l M W OUT w b m n A S E p sp dp fl hl hv hE ⟨hA1, hA2⟩ hs hW hLA hM hLB h6 hO
      · exact inRunTF l M W OUT w b m n A S E p sp dp fl hl hv hE ⟨hA1, hA2⟩ hs hW hLA hM hLB h4 hO
      · exact inRunTT l M W OUT w b m n A S E p sp dp fl hl hv hE ⟨hA1, hA2⟩ hs hW hLA hM hLB h6 hO
    obtain ⟨v1, h1, hr, ks, hd⟩ := fin
    exact ⟨v1, h1, hr, ks, (hd _).1, (hd 0).2⟩
  | big l v d6 m n A S E p sp dp fl _ a k g hl hv hn hE hs hk =>
    subst hk
    obtain ⟨gb, rfl⟩ := g
    refine ⟨[slB 0 (bOf h a), .agg (dAdr false 150), .agg (dAdr true 150), .agg (dAdr d6 m)], [farB (bOf h a)], .cons _ _ _ _ _ _ _ (bOk_canon gb 0) (.cons _ _ _ _ _ _ _ (.flat _ _ (hd0 _ _)) (.cons _ _ _ _ _ _ _ (.flat _ _ (hd0 _ _)) (.cons _ _ _ _ _ _ _ (.flat _ _ (hd0 _ _)) (.nil _)))), ?_⟩
    generalize bOf h a = l at *
    have fin : ∃ h1, Runs Try.prog 11 [slB 0 l, .agg (dAdr false 150), .agg (dAdr true 150), .agg (dAdr d6 m)] [farB l] (.tup [.sl none 0 0 true, .int .i64 9]) h1 := by
      cases v <;> cases d6
      · have hH : frH false = 20 := rfl
        rw [hH] at hs
        refine ⟨(hInBFF2 l m n A S E p sp dp fl), Runs.ofT0 (tInOk (.tup [.agg (viewOf false A S E p (kSrc false n) (kDst false) sp dp fl), .int .i64 0]) .nilFn .nilFn [] []) (F := 100) (n := 5) (pr := [(24, .bool false), (61, .bool true)]) ?_⟩
        refine (nfInBFF l m n A S E p sp dp fl _).trans ?_
        refine (if_pos (cdec_true.2 (sayRead (bOk_row rfl rfl rfl) (by show l.length ≤ _; omega) hv))).trans ?_
        refine (if_pos ⟨by (first | omega | (simp (disch := omega) only [iv, w6, nT, tk, intV, wrapI64, roomOf, capOf_f, zrep_one, List.length_replicate, putCells_len, bys_length, bysTakeL, cutL, List.length_take, List.length_drop, Int.toNat_natCast, decide_eq_true_eq, decide_eq_false_iff_not] <;> omega) | (simp (disch := omega) only [iv, w6, nT, tk, intV, wrapI64, roomOf, capOf_f, zrep_one, List.length_replicate, putCells_len, bys_length, bysTakeL, cutL, List.length_take, List.length_drop, Int.toNat_natCast, decide_eq_true_eq, decide_eq_false_iff_not]; done)), by (first | omega | (simp (disch := omega) only [iv, w6, nT, tk, intV, wrapI64, roomOf, capOf_f, zrep_one, List.length_replicate, putCells_len, bys_length, bysTakeL, cutL, List.length_take, List.length_drop, Int.toNat_natCast, decide_eq_true_eq, decide_eq_false_iff_not] <;> omega) | (simp (disch := omega) only [iv, w6, nT, tk, intV, wrapI64, roomOf, capOf_f, zrep_one, List.length_replicate, putCells_len, bys_length, bysTakeL, cutL, List.length_take, List.length_drop, Int.toNat_natCast, decide_eq_true_eq, decide_eq_false_iff_not]; done))⟩).trans ?_
        refine (if_pos ⟨by (first | omega | (simp (disch := omega) only [iv, w6, nT, tk, intV, wrapI64, roomOf, capOf_f, zrep_one, List.length_replicate, putCells_len, bys_length, bysTakeL, cutL, List.length_take, List.length_drop, Int.toNat_natCast, decide_eq_true_eq, decide_eq_false_iff_not] <;> omega) | (simp (disch := omega) only [iv, w6, nT, tk, intV, wrapI64, roomOf, capOf_f, zrep_one, List.length_replicate, putCells_len, bys_length, bysTakeL, cutL, List.length_take, List.length_drop, Int.toNat_natCast, decide_eq_true_eq, decide_eq_false_iff_not]; done)), by (first | omega | (simp (disch := omega) only [iv, w6, nT, tk, intV, wrapI64, roomOf, capOf_f, zrep_one, List.length_replicate, putCells_len, bys_length, bysTakeL, cutL, List.length_take, List.length_drop, Int.toNat_natCast, decide_eq_true_eq, decide_eq_false_iff_not] <;> omega) | (simp (disch := omega) only [iv, w6, nT, tk, intV, wrapI64, roomOf, capOf_f, zrep_one, List.length_replicate, putCells_len, bys_length, bysTakeL, cutL, List.length_take, List.length_drop, Int.toNat_natCast, decide_eq_true_eq, decide_eq_false_iff_not]; done))⟩).trans ?_
        refine (if_pos (decide_eq_true (by (first | omega | (simp (disch := omega) only [iv, w6, nT, tk, intV, wrapI64, roomOf, capOf_f, zrep_one, List.length_replicate, putCells_len, bys_length, bysTakeL, cutL, List.length_take, List.length_drop, Int.toNat_natCast, decide_eq_true_eq, decide_eq_false_iff_not] <;> omega) | (simp (disch := omega) only [iv, w6, nT, tk, intV, wrapI64, roomOf, capOf_f, zrep_one, List.length_replicate, putCells_len, bys_length, bysTakeL, cutL, List.length_take, List.length_drop, Int.toNat_natCast, decide_eq_true_eq, decide_eq_false_iff_not]; done))))).trans ?_
        rfl
      · have hH : frH true = 40 := rfl
        rw [hH] at hs
        refine ⟨(hInBFT2 l m n A S E p sp dp fl), Runs.ofT0 (tInOk (.tup [.agg (viewOf false A S E p (kSrc false n) (kDst false) sp dp fl), .int .i64 0]) .nilFn .nilFn [] []) (F := 100) (n := 5) (pr := [(24, .bool false), (61, .bool true)]) ?_⟩
        refine (nfInBFT l m n A S E p sp dp fl _).trans ?_
        refine (if_pos (cdec_true.2 (sayRead (bOk_row rfl rfl rfl) (by show l.length ≤ _; omega) hv))).trans ?_
        refine (if_pos ⟨by (first | omega | (simp (disch := omega) only [iv, w6, nT, tk, intV, wrapI64, roomOf, capOf_f, zrep_one, List.length_replicate, putCells_len, bys_length, bysTakeL, cutL, List.length_take, List.length_drop, Int.toNat_natCast, decide_eq_true_eq, decide_eq_false_iff_not] <;> omega) | (simp (disch := omega) only [iv, w6, nT, tk, intV, wrapI64, roomOf, capOf_f, zrep_one, List.length_replicate, putCells_len, bys_length, bysTakeL, cutL, List.length_take, List.length_drop, Int.toNat_natCast, decide_eq_true_eq, decide_eq_false_iff_not]; done)), by (first | omega | (simp (disch := omega) only [iv, w6, nT, tk, intV, wrapI64, roomOf, capOf_f, zrep_one, List.length_replicate, putCells_len, bys_length, bysTakeL, cutL, List.length_take, List.length_drop, Int.toNat_natCast, decide_eq_true_eq, decide_eq_false_iff_not] <;> omega) | (simp (disch := omega) only [iv, w6, nT, tk, intV, wrapI64, roomOf, capOf_f, zrep_one, List.length_replicate, putCells_len, bys_length, bysTakeL, cutL, List.length_take, List.length_drop, Int.toNat_natCast, decide_eq_true_eq, decide_eq_false_iff_not]; done))⟩).trans ?_
        refine (if_pos ⟨by (first | omega | (simp (disch := omega) only [iv, w6, nT, tk, intV, wrapI64, roomOf, capOf_f, zrep_one, List.length_replicate, putCells_len, bys_length, bysTakeL, cutL, List.length_take, List.length_drop, Int.toNat_natCast, decide_eq_true_eq, decide_eq_false_iff_not] <;> omega) | (simp (disch := omega) only [iv, w6, nT, tk, intV, wrapI64, roomOf, capOf_f, zrep_one, List.length_replicate, putCells_len, bys_length, bysTakeL, cutL, List.length_take, List.length_drop, Int.toNat_natCast, decide_eq_true_eq, decide_eq_false_iff_not]; done)), by (first | omega | (simp (disch := omega) only [iv, w6, nT, tk, intV, wrapI64, roomOf, capOf_f, zrep_one, List.length_replicate, putCells_len, bys_length, bysTakeL, cutL, List.length_take, List.length_drop, Int.toNat_natCast, decide_eq_true_eq, decide_eq_false_iff_not] <;> omega) | (simp (disch := omega) only [iv, w6, nT, tk, intV, wrapI64, roomOf, capOf_f, zrep_one, List.length_replicate, putCells_len, bys_length, bysTakeL, cutL, List.length_take, List.length_drop, Int.toNat_natCast, decide_eq_true_eq, decide_eq_false_iff_not]; done))⟩).trans ?_
        refine (if_pos (decide_eq_true (by (first | omega | (simp (disch := omega) only [iv, w6, nT, tk, intV, wrapI64, roomOf, capOf_f, zrep_one, List.length_replicate, putCells_len, bys_length, bysTakeL, cutL, List.length_take, List.length_drop, Int.toNat_natCast, decide_eq_true_eq, decide_eq_false_iff_not] <;> omega) | (simp (disch := omega) only [iv, w6, nT, tk, intV, wrapI64, roomOf, capOf_f, zrep_one, List.length_replicate, putCells_len, bys_length, bysTakeL, cutL, List.length_take, List.length_drop, Int.toNat_natCast, decide_eq_true_eq, decide_eq_false_iff_not]; done))))).trans ?_
        rfl
      · have hH : frH false = 20 := rfl
        rw [hH] at hs
        refine ⟨(hInBTF2 l m n A S E p sp dp fl), Runs.ofT0 (tInOk (.tup [.agg (viewOf true A S E p (kSrc true n) (kDst true) sp dp fl), .int .i64 0]) .nilFn .nilFn [] []) (F := 100) (n := 5) (pr := [(24, .bool false), (61, .bool true)]) ?_⟩
        refine (nfInBTF l m n A S E p sp dp fl _).trans ?_
        refine (if_pos (cdec_true.2 (sayRead (bOk_row rfl rfl rfl) (by show l.length ≤ _; omega) hv))).trans ?_
        refine (if_pos ⟨by (first | omega | (simp (disch := omega) only [iv, w6, nT, tk, intV, wrapI64, roomOf, capOf_f, zrep_one, List.length_replicate, putCells_len, bys_length, bysTakeL, cutL, List.length_take, List.length_drop, Int.toNat_natCast, decide_eq_true_eq, decide_eq_false_iff_not] <;> omega) | (simp (disch := omega) only [iv, w6, nT, tk, intV, wrapI64, roomOf, capOf_f, zrep_one, List.length_replicate, putCells_len, bys_length, bysTakeL, cutL, List.length_take, List.length_drop, Int.toNat_natCast, decide_eq_true_eq, decide_eq_false_iff_not]; done)), by (first | omega | (simp (disch := omega) only [iv, w6, nT, tk, intV, wrapI64, roomOf, capOf_f, zrep_one, List.length_replicate, putCells_len, bys_length, bysTakeL, cutL, List.length_take, List.length_drop, Int.toNat_natCast, decide_eq_true_eq, decide_eq_false_iff_not] <;> omega) | (simp (disch := omega) only [iv, w6, nT, tk, intV, wrapI64, roomOf, capOf_f, zrep_one, List.length_replicate, putCells_len, bys_length, bysTakeL, cutL, List.length_take, List.length_drop, Int.toNat_natCast, decide_eq_true_eq, decide_eq_false_iff_not]; done))⟩).trans ?_
        refine (if_pos ⟨by (first | omega | (simp (disch := omega) only [iv, w6, nT, tk, intV, wrapI64, roomOf, capOf_f, zrep_one, List.length_replicate, putCells_len, bys_length, bysTakeL, cutL, List.length_take, List.length_drop, Int.toNat_natCast, decide_eq_true_eq, decide_eq_false_iff_not] <;> omega) | (simp (disch := omega) only [iv, w6, nT, tk, intV, wrapI64, roomOf, capOf_f, zrep_one, List.length_replicate, putCells_len, bys_length, bysTakeL, cutL, List.length_take, List.length_drop, Int.toNat_natCast, decide_eq_true_eq, decide_eq_false_iff_not]; done)), by (first | omega | (simp (disch := omega) only [iv, w6, nT, tk, intV, wrapI64, roomOf, capOf_f, zrep_one, List.length_replicate, putCells_len, bys_length, bysTakeL, cutL, List.length_take, List.length_drop, Int.toNat_natCast, decide_eq_true_eq, decide_eq_false_iff_not] <;> omega) | (simp (disch := omega) only [iv, w6, nT, tk, intV, wrapI64, roomOf, capOf_f, zrep_one, List.length_replicate, putCells_len, bys_length, bysTakeL, cutL, List.length_take, List.length_drop, Int.toNat_natCast, decide_eq_true_eq, decide_eq_false_iff_not]; done))⟩).trans ?_
        refine (if_pos (decide_eq_true (by (first | omega | (simp (disch := omega) only [iv, w6, nT, tk, intV, wrapI64, roomOf, capOf_f, zrep_one, List.length_replicate, putCells_len, bys_length, bysTakeL, cutL, List.length_take, List.length_drop, Int.toNat_natCast, decide_eq_true_eq, decide_eq_false_iff_not] <;> omega) | (simp (disch := omega) only [iv, w6, nT, tk, intV, wrapI64, roomOf, capOf_f, zrep_one, List.length_replicate, putCells_len, bys_length, bysTakeL, cutL, List.length_take, List.length_drop, Int.toNat_natCast, decide_eq_true_eq, decide_eq_false_iff_not]; done))))).trans ?_
        rfl
      · have hH : frH true = 40 := rfl
        rw [hH] at hs
        refine ⟨(hInBTT2 l m n A S E p sp dp fl), Runs.ofT0 (tInOk (.tup [.agg (viewOf true A S E p (kSrc true n) (kDst true) sp dp fl), .int .i64 0]) .nilFn .nilFn [] []) (F := 100) (n := 5) (pr := [(24, .bool false), (61, .bool true)]) ?_⟩
        refine (nfInBTT l m n A S E p sp dp fl _).trans ?_
        refine (if_pos (cdec_true.2 (sayRead (bOk_row rfl rfl rfl) (by show l.length ≤ _; omega) hv))).trans ?_
        refine (if_pos ⟨by (first | omega | (simp (disch := omega) only [iv, w6, nT, tk, intV, wrapI64, roomOf, capOf_f, zrep_one, List.length_replicate, putCells_len, bys_length, bysTakeL, cutL, List.length_take, List.length_drop, Int.toNat_natCast, decide_eq_true_eq, decide_eq_false_iff_not] <;> omega) | (simp (disch := omega) only [iv, w6, nT, tk, intV, wrapI64, roomOf, capOf_f, zrep_one, List.length_replicate, putCells_len, bys_length, bysTakeL, cutL, List.length_take, List.length_drop, Int.toNat_natCast, decide_eq_true_eq, decide_eq_false_iff_not]; done)), by (first | omega | (simp (disch := omega) only [iv, w6, nT, tk, intV, wrapI64, roomOf, capOf_f, zrep_one, List.length_replicate, putCells_len, bys_length, bysTakeL, cutL, List.length_take, List.length_drop, Int.toNat_natCast, decide_eq_true_eq, decide_eq_false_iff_not] <;> omega) | (simp (disch := omega) only [iv, w6, nT, tk, intV, wrapI64, roomOf, capOf_f, zrep_one, List.length_replicate, putCells_len, bys_length, bysTakeL, cutL, List.length_take, List.length_drop, Int.toNat_natCast, decide_eq_true_eq, decide_eq_false_iff_not]; done))⟩).trans ?_
        refine (if_pos ⟨by (first | omega | (simp (disch := omega) only [iv, w6, nT, tk, intV, wrapI64, roomOf, capOf_f, zrep_one, List.length_replicate, putCells_len, bys_length, bysTakeL, cutL, List.length_take, List.length_drop, Int.toNat_natCast, decide_eq_true_eq, decide_eq_false_iff_not] <;> omega) | (simp (disch := omega) only [iv, w6, nT, tk, intV, wrapI64, roomOf, capOf_f, zrep_one, List.length_replicate, putCells_len, bys_length, bysTakeL, cutL, List.length_take, List.length_drop, Int.toNat_natCast, decide_eq_true_eq, decide_eq_false_iff_not]; done)), by (first | omega | (simp (disch := omega) only [iv, w6, nT, tk, intV, wrapI64, roomOf, capOf_f, zrep_one, List.length_replicate, putCells_len, bys_length, bysTakeL, cutL, List.length_take, List.length_drop, Int.toNat_natCast, decide_eq_true_eq, decide_eq_false_iff_not] <;> omega) | (simp (disch := omega) only [iv, w6, nT, tk, intV, wrapI64, roomOf, capOf_f, zrep_one, List.length_replicate, putCells_len, bys_length, bysTakeL, cutL, List.length_take, List.length_drop, Int.toNat_natCast, decide_eq_true_eq, decide_eq_false_iff_not]; done))⟩).trans ?_
        refine (if_pos (decide_eq_true (by (first | omega | (simp (disch := omega) only [iv, w6, nT, tk, intV, wrapI64, roomOf, capOf_f, zrep_one, List.length_replicate, putCells_len, bys_length, bysTakeL, cutL, List.length_take, List.length_drop, Int.toNat_natCast, decide_eq_true_eq, decide_eq_false_iff_not] <;> omega) | (simp (disch := omega) only [iv, w6, nT, tk, intV, wrapI64, roomOf, capOf_f, zrep_one, List.length_replicate, putCells_len, bys_length, bysTakeL, cutL, List.length_take, List.length_drop, Int.toNat_natCast, decide_eq_true_eq, decide_eq_false_iff_not]; done))))).trans ?_
        rfl
    obtain ⟨h1, hr⟩ := fin
    exact ⟨_, h1, hr, [none], .tup _ _ _ _ _ (.cons _ [none] [] _ _ _ _ [ownB []] [] (.nil _ _ 1) (.cons _ [] [] _ _ _ _ [] [] (.flat _ _ rfl) (.nil _))), ksOk1 _⟩
  | no l d6 m r _ a k g hl hv h0 hk =>
    subst hk
    obtain ⟨gb, rfl⟩ := g
    refine ⟨[slB 0 (bOf h a), .agg (dAdr false 150), .agg (dAdr true 150), .agg (dAdr d6 m)], [farB (bOf h a)], .cons _ _ _ _ _ _ _ (bOk_canon gb 0) (.cons _ _ _ _ _ _ _ (.flat _ _ (hd0 _ _)) (.cons _ _ _ _ _ _ _ (.flat _ _ (hd0 _ _)) (.cons _ _ _ _ _ _ _ (.flat _ _ (hd0 _ _)) (.nil _)))), ?_⟩
    generalize bOf h a = l at *
    refine ⟨(.tup [.sl none 0 0 true, .int .i64 r]), (hInN2 l d6 m r), Runs.ofT0 (tInOk (.tup [.agg view0, .int .i64 r]) .nilFn .nilFn [] []) (F := 100) (n := 5) (pr := [(24, .bool true)]) ?_, [none], .tup _ _ _ _ _ (.cons _ [none] [] _ _ _ _ [ownB []] [] (.nil _ _ 1) (.cons _ [] [] _ _ _ _ [] [] (.flat _ _ rfl) (.nil _))), ksOk1 _⟩
    refine (nfInN l d6 m r _).trans ?_
    refine (if_pos (cdec_true.2 (sayRead (bOk_row rfl rfl rfl) (by show l.length ≤ _; omega) hv))).trans ?_
    refine (if_pos (by simp [h0])).trans ?_
    rfl

end Go.Proofs.Ytjkkhbeidhpghaa.L
