/- Which member may not be: contracts of IndexFunc, ContainsFunc. -/
import Derived.Test.YtjlepcfeeicdfaaMxN
set_option autoImplicit false
set_option maxRecDepth 100000
set_option linter.unusedVariables false
set_option linter.unusedSimpArgs false
namespace Go.Proofs.Ytjlepcfeeicdfaa.L
open Go Go.Abs

theorem uptos_app {n : Nat} : ∀ {l m : List AV}, AV.uptos n l = true → AV.uptos n m = true → AV.uptos n (l ++ m) = true
  | [], _, _, h => h
  | a :: l, m, h, g => by
    simp only [AV.uptos, Bool.and_eq_true, List.cons_append] at h ⊢
    exact ⟨h.1, uptos_app h.2 g⟩
def badM (k : Int) (m : DipC × Int) : Bool := !adrValid (m.1.cells.take 17) || (decide (m.2 < 0) || (decide (m.2 > 255) || (decide (k = 4) && decide (m.2 ≠ 0))))
def ixM (k : Int) (P : PL) : Nat := P.findIdx (badM k)
def ixMI (k : Int) (P : PL) : Int := if ixM k P < P.length then ixM k P else -1
theorem isAdr_dip (d : DipC) : IsAdr (d.cells.take 17) := .mk d _ rfl
theorem ill_17 (d : DipC) (w : Int) : List.take 17 (illC d w) = d.cells.take 17 := by
  unfold illC; rw [List.take_append_of_le_length (by simp)]
theorem ill_w (d : DipC) (w : Int) : (illC d w)[18]? = some (.int .i64 w) := by
  unfold illC; rw [List.getElem?_append_right (by simp)]; simp
def cmX (pr : Int) (d : DipC) (a : AV) : List AV := .int .u8 pr :: (d.cells ++ [a])
theorem okMx {P : PL} {k pr : Int} {d : DipC} {X : ABlk} (n : Nat) (r i : Int) : Gc 3 (vMx n r i) (hMx (itP P) k (cmX pr d (.sl (some (2, 0)) P.length 0 false)) (.cells (itP P) 19 .far none) ++ [X]) (vMx n r i) (hMx (itP P) k (cmX pr d (.sl (some (2, 0)) P.length 0 false)) (.cells (itP P) 19 .far none)) :=
  Gc.drop (X := [X]) 3 rfl rfl (by
    intro b hb
    simp only [hMx, List.mem_cons, List.not_mem_nil, or_false] at hb
    rcases hb with rfl | rfl | rfl
    · exact okU_free (itP_frees _) (by simp)
    · refine ⟨?_, by simp⟩
      show AV.uptos 3 (.int .i64 k :: .int .u8 pr :: (d.cells ++ [_])) = true
      exact uptos_app (l := .int .i64 k :: .int .u8 pr :: d.cells) (frees_up (by show AV.frees d.cells = true; exact d.cells_frees)) rfl
    · exact okU_free (itP_frees _) (by simp))
theorem rowMxa {P : PL} {X : List AV} {B2 : ABlk} {k : Int} {i : Nat} (hi : i < P.length) (hn : P.length ≤ 1000000) (hb : badM k P[i] = false) :
    qround Try.prog tMx 100 4 [(9, .bool true), (16, .bool false)] noT MXL mMx (vMx P.length 0 i) (hMx (itP P) k X B2) = some (.norm, vMx P.length 0 ((i + 1 : Nat) : Int), hMx (itP P) k X B2 ++ [.cells (illC P[i].1 P[i].2) 19 .own none]) := by
  have e5 := wrap1 (i := i) (by omega)
  have e6 : 0 + (i : Int).toNat * 19 = i * 19 := by omega
  have hL := itP_length P
  unfold badM at hb
  simp only [Bool.or_eq_false_iff, Bool.not_eq_false', decide_eq_false_iff_not, Bool.and_eq_false_iff] at hb
  obtain ⟨h1, h2, h3, h4⟩ := hb
  refine (nfMxa ..).trans ?_
  unfold hMxa0
  simp only [e6, itP_19 hi, e5, ill_17, ill_w, intV_some]
  refine (if_pos (by simp; omega)).trans ?_
  refine (if_pos (by omega)).trans ?_
  refine (if_pos (by omega)).trans ?_
  refine (if_pos (by simp)).trans ?_
  refine (if_pos (cdec_true.2 (isAdr_dip _))).trans ?_
  refine (if_neg (by rw [opq_eq, h1]; decide)).trans ?_
  refine (if_pos rfl).trans ?_
  refine (if_neg (by simpa using h2)).trans ?_
  refine (if_pos rfl).trans ?_
  refine (if_neg (by simpa using h3)).trans ?_
  by_cases hk : k = 4
  · refine (if_pos (by simpa using hk)).trans ?_
    refine (if_pos rfl).trans ?_
    exact if_pos (by rcases h4 with h | h; exact absurd hk h; simpa using h)
  · exact if_neg (by simpa using hk)
theorem rowMxb {P : PL} {X : List AV} {B2 : ABlk} {k : Int} {i : Nat} (hi : i < P.length) (hn : P.length ≤ 1000000) (hb : badM k P[i] = true) :
    qround Try.prog tMx 100 4 [(9, .bool true), (16, .bool true)] noT MXL mMx (vMx P.length 0 i) (hMx (itP P) k X B2) = some (.ret, vMx P.length i i, hMx (itP P) k X B2 ++ [.cells (illC P[i].1 P[i].2) 19 .own none]) := by
  have e6 : 0 + (i : Int).toNat * 19 = i * 19 := by omega
  have hL := itP_length P
  unfold badM at hb
  refine (nfMxb ..).trans ?_
  unfold hMxb0
  simp only [e6, itP_19 hi, ill_17, ill_w, intV_some]
  refine (if_pos (by simp; omega)).trans ?_
  refine (if_pos (by omega)).trans ?_
  refine (if_pos (by omega)).trans ?_
  refine (if_pos (by simp)).trans ?_
  refine (if_pos (cdec_true.2 (isAdr_dip _))).trans ?_
  by_cases h1 : adrValid (P[i].1.cells.take 17) = true
  · refine (if_neg (by rw [opq_eq, h1]; decide)).trans ?_
    refine (if_pos rfl).trans ?_
    by_cases h2 : P[i].2 < 0
    · exact if_pos (by simpa using h2)
    refine (if_neg (by simpa using h2)).trans ?_
    refine (if_pos rfl).trans ?_
    by_cases h3 : P[i].2 > 255
    · exact if_pos (by simpa using h3)
    refine (if_neg (by simpa using h3)).trans ?_
    rw [h1, decide_eq_false h2, decide_eq_false h3] at hb
    simp only [Bool.not_true, Bool.false_or, Bool.and_eq_true, decide_eq_true_eq] at hb
    refine (if_pos (by simpa using hb.1)).trans ?_
    refine (if_pos rfl).trans ?_
    exact if_pos (by simpa using hb.2)
  · exact if_pos (by rw [opq_eq]; simpa using h1)
theorem runMx {P : PL} {k pr : Int} {d : DipC} (hl : P.length ≤ 1000000) : ∃ h', Runs Try.prog 44 [.sl (some (0, 0)) P.length 0 false, fMx 1] (hMx (itP P) k (cmX pr d (.sl (some (2, 0)) P.length 0 false)) (.cells (itP P) 19 .far none)) (.int .i64 (ixMI k P)) h' := by
  have lp : loopsOf (bodyOf Try.prog 44) = [MXL] := by kernel_rfl
  have step : ∀ i : Nat, (hi : i < P.length) → i < ixM k P → ∃ vs1 h1, qround Try.prog tMx 100 4 [(9, .bool true), (16, .bool false)] noT MXL mMx (vMx P.length 0 i) (hMx (itP P) k (cmX pr d (.sl (some (2, 0)) P.length 0 false)) (.cells (itP P) 19 .far none)) = some (.norm, vs1, h1) ∧ Gc 3 vs1 h1 (vMx P.length 0 ((i + 1 : Nat) : Int)) (hMx (itP P) k (cmX pr d (.sl (some (2, 0)) P.length 0 false)) (.cells (itP P) 19 .far none)) := by
    intro i hi hk
    have hne : badM k P[i] = false := by have := List.not_of_lt_findIdx (p := badM k) (xs := P) hk; simpa using this
    exact ⟨_, _, rowMxa hi hl hne, okMx _ _ _⟩
  by_cases hk : ixM k P < P.length
  · have key : True → ∃ n, GReach (roundG Try.prog (deepT Try.prog tMx 100 4) (lsT noT) MXL mMx) 3 n (vMx P.length 0 0) (hMx (itP P) k (cmX pr d (.sl (some (2, 0)) P.length 0 false)) (.cells (itP P) 19 .far none)) .ret (vMx P.length (ixM k P) (ixM k P)) (hMx (itP P) k (cmX pr d (.sl (some (2, 0)) P.length 0 false)) (.cells (itP P) 19 .far none)) := by
      intro _
      have he : badM k P[ixM k P] = true := List.findIdx_getElem (p := badM k) (xs := P) (w := hk)
      exact loop_T (fun i => (vMx P.length 0 i, hMx (itP P) k (cmX pr d (.sl (some (2, 0)) P.length 0 false)) (.cells (itP P) 19 .far none))) (N := ixM k P) (by simp) (fun i hi => ⟨_, step i (by omega) hi⟩) ⟨_, _, _, rowMxb hk hl he, okMx _ _ _⟩
    have e : ixMI k P = ixM k P := by unfold ixMI; rw [if_pos hk]
    rw [e]
    refine Runs.valT tMxOk (F := 100) (n := 4) (pr := []) (only (k := 2) lp (fixC_T tMxOk (F := 100) (n := 4) (LS := noT) (noLoops (by kernel_rfl)) key)) ?_
    refine (nfMxr ..).trans ?_
    exact if_pos (cdec_true.2 ⟨trivial, rfl, rfl⟩)
  · have key : True → ∃ n, GReach (roundG Try.prog (deepT Try.prog tMx 100 4) (lsT noT) MXL mMx) 3 n (vMx P.length 0 0) (hMx (itP P) k (cmX pr d (.sl (some (2, 0)) P.length 0 false)) (.cells (itP P) 19 .far none)) (.exit 0) (vMx P.length 0 P.length) (hMx (itP P) k (cmX pr d (.sl (some (2, 0)) P.length 0 false)) (.cells (itP P) 19 .far none)) := by
      intro _
      exact loop_T (fun i => (vMx P.length 0 i, hMx (itP P) k (cmX pr d (.sl (some (2, 0)) P.length 0 false)) (.cells (itP P) 19 .far none))) (N := P.length) (by simp) (fun i hi => ⟨_, step i hi (by omega)⟩) ⟨_, _, _, (nfMxs ..).trans (if_pos (by simp)), Gc.refl⟩
    have e : ixMI k P = -1 := by unfold ixMI; rw [if_neg hk]
    rw [e]
    refine Runs.valT tMxOk (F := 100) (n := 4) (pr := []) (only (k := 2) lp (fixC_T tMxOk (F := 100) (n := 4) (LS := noT) (noLoops (by kernel_rfl)) key)) ?_
    refine (nfMxe ..).trans ?_
    exact if_pos (cdec_true.2 ⟨trivial, rfl, rfl⟩)
inductive IxR : List AV → AHeap → AV → AHeap → Prop
  | mk (P : PL) (k pr : Int) (d : DipC) (h : AHeap) (a s : AV) (b : Nat) (e : Nat) (md : Md) (par : Option Nat) (ga : rowP h a P) (gb : h[b]? = some (.cells (.int .i64 k :: cmX pr d s) e md par)) (he : e = 21) (gs : rowP h s P) (hl : P.length ≤ 1000000) (r : Int) (hr : ixMI k P = r) :
      IxR [a, .fn (.func 36) [.ptr (some (b, 0))]] h (.int .i64 r) []
theorem canons_dip {h : AHeap} {n : Nat} {l m m' : List AV} {bs : List ABlk} (hf : AV.frees l = true) (g : Canons h n m m' bs) : Canons h n (l ++ m) (l ++ m') bs := by
  induction l with
  | nil => exact g
  | cons a l ih =>
    simp only [AV.frees, Bool.and_eq_true] at hf
    exact .cons _ _ _ _ _ [] bs (.flat _ _ hf.1) (ih hf.2)
theorem canons_cm {h : AHeap} {n : Nat} {k pr : Int} {d : DipC} {a : AV} {P : PL} (g : rowP h a P) : Canons h n (.int .i64 k :: cmX pr d a) (.int .i64 k :: cmX pr d (.sl (some (n, 0)) P.length 0 false)) [.cells (itP P) 19 .far none] :=
  canons_dip (l := .int .i64 k :: .int .u8 pr :: d.cells) (by show AV.frees d.cells = true; exact d.cells_frees) (.cons _ _ _ _ _ [.cells (itP P) 19 .far none] [] (rowP_canon g n) (.nil _))
theorem sIx (L : List (Nat × AV × AHeap)) : SoundE Try.prog 44 (entF (eRel IxR L)) := by
  refine relR_sound (fun args h v new hR => ?_) L
  cases hR with
  | mk P k pr d _ a s b e md par ga gb he gs hl r hr =>
  subst hr he
  obtain ⟨h1, h2⟩ := runMx (P := P) (k := k) (pr := pr) (d := d) hl
  exact ⟨[.sl (some (0, 0)) P.length 0 false, fMx 1], hMx (itP P) k (cmX pr d (.sl (some (2, 0)) P.length 0 false)) (.cells (itP P) 19 .far none), .cons _ _ _ _ _ [.cells (itP P) 19 .far none] [.cells (.int .i64 k :: cmX pr d (.sl (some (2, 0)) P.length 0 false)) 21 .far none, .cells (itP P) 19 .far none] (rowP_canon ga 0) (.cons _ _ _ _ _ [.cells (.int .i64 k :: cmX pr d (.sl (some (2, 0)) P.length 0 false)) 21 .far none, .cells (itP P) 19 .far none] [] (.fn _ _ _ _ _ (.cons _ _ _ _ _ [.cells (.int .i64 k :: cmX pr d (.sl (some (2, 0)) P.length 0 false)) 21 .far none, .cells (itP P) 19 .far none] [] (.ptr _ _ _ _ _ _ _ _ _ gb (by simp) (canons_cm gs)) (.nil _))) (.nil _)), _, h1, h2, [], .flat _ _ rfl, ksOk0⟩

end Go.Proofs.Ytjlepcfeeicdfaa.L
