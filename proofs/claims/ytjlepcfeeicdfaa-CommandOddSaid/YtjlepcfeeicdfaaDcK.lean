/- command.Decode: its contract. -/
import Derived.Test.YtjlepcfeeicdfaaDcN
import Derived.Test.YtjlepcfeeicdfaaCmG
set_option autoImplicit false
set_option maxRecDepth 100000
set_option linter.unusedVariables false
set_option linter.unusedSimpArgs false
namespace Go.Proofs.Ytjlepcfeeicdfaa.L
open Go Go.Abs

theorem ars_app {ρ : Nat → Option Nat} : ∀ {l m m' : List AV}, AV.frees l = true → ARs ρ m m' → ARs ρ (l ++ m) (l ++ m')
  | [], _, _, _, h => h
  | a :: l, m, m', hf, h => by
    simp only [AV.frees, Bool.and_eq_true] at hf
    exact .cons _ _ _ _ (.free _ hf.1) (ars_app hf.2 h)
theorem nrs_app {k : Nat} {m m' : List AV} (h : NRs k m m') : ∀ l : List AV, NRs k (l ++ m) (l ++ m')
  | [] => h
  | a :: l => .same _ _ _ (nrs_app h l)
theorem dens_app {h1 : AHeap} {n0 m : Nat} {ks : List (Option Nat)} {a a1 : AV} {bs : List ABlk} (h : Den h1 n0 m ks a a1 bs) : ∀ {l : List AV}, AV.frees l = true → Dens h1 n0 m ks (l ++ [a]) (l ++ [a1]) bs
  | [], _ => by simpa using Dens.cons (h1 := h1) (n0 := n0) m ks [] a [] a1 [] bs [] h (.nil _)
  | b :: l, hf => by
    simp only [AV.frees, Bool.and_eq_true] at hf
    exact .cons m [] ks b (l ++ [a]) b (l ++ [a1]) [] bs (.flat _ _ hf.1) (dens_app h hf.2)
def cmH (k pr : Int) (d : DipC) : List AV := .int .i64 k :: .int .u8 pr :: d.cells
theorem cmH_free (k pr : Int) (d : DipC) : AV.frees (cmH k pr d) = true := d.cells_frees
theorem denCm {h1 : AHeap} {n0 m : Nat} {ks : List (Option Nat)} {k pr : Int} {d : DipC} {s s1 b : AV} {bs : List ABlk} (hb : b.free = true) (h : Den h1 n0 m ks s s1 bs) : Den h1 n0 m ks (.tup [.agg (cmF k pr d s), b]) (.tup [.agg (cmF k pr d s1), b]) bs := by
  refine .tup _ _ _ _ _ ?_
  have := Dens.cons (h1 := h1) (n0 := n0) m ks [] (.agg (cmF k pr d s)) [b] (.agg (cmF k pr d s1)) [b] bs [] (.agg _ _ _ _ _ (dens_app h (cmH_free k pr d))) (.cons _ [] [] _ _ _ _ [] [] (.flat _ _ hb) (.nil _))
  simpa using this
def dZ : DipC := dF false (fun _ => 0) 0
def dcH (l : List UInt8) (k pr : Int) (d : DipC) (P : PL) (e : Int) : Prop := (GoodC l k pr d P ∧ e = 0) ∨ ((∀ k pr d P, ¬ GoodC l k pr d P) ∧ k = 0 ∧ pr = 0 ∧ d = dZ ∧ P = [] ∧ e = 2)

theorem lastB_at {l : List UInt8} {A : Nat} (h : A ≤ l.length) : lastB l (l.length - A) = l.drop A := by
  unfold lastB; congr 1; omega
theorem lastB_at' {l : List UInt8} {A : Nat} (h : A ≤ l.length) : lastB l (Nat.sub l.length A) = l.drop A := lastB_at h
theorem sFrL (l : List UInt8) : SoundE Try.prog 22 (entF (eFrL l)) := by
  refine canonV_sound fun args h v h' hg => ?_
  unfold eFrL at hg
  split at hg
  · rename_i b
    simp only [Option.some.injEq, Prod.mk.injEq] at hg
    obtain ⟨hc, rfl, rfl⟩ := hg
    rw [cdec_true] at hc
    obtain ⟨⟨hb, he⟩, hn⟩ := hc
    have ev : (AV.tup [.agg (opq frCn l (nOf b)), .int .u16 (opq frPn l (nOf b)), .int .i64 (opq frNn l (nOf b))]) = fromV (lastB l (nOf b)) := by
      rw [opq_eq, opq_eq, opq_eq]
      unfold fromV frCn frPn frNn
      by_cases h : frOk (lastB l (nOf b))
      · simp only [if_pos h]
      · simp only [if_neg h]
    rw [ev, ← he]
    have hn' := hn
    rw [← bOk_len hb] at hn'
    exact ⟨rfl, fromV_free _, [slB 0 (bOf h b)], [farB (bOf h b)], .cons _ _ _ _ _ _ _ (bOk_canon hb 0) (.nil _), runFro _ hn'⟩
  · simp at hg
theorem tDlOk (l : List UInt8) : ∀ f E, (tDl l).find f = some E → SoundE Try.prog f E := find_cons (sFrL l) (find_nil _)
theorem fA_y {l : List UInt8} {A : Nat} (h : A ≤ l.length) (g : frOk (l.drop A)) : fA l A = adF (decide (byt (l.drop A) 0 = 6)) (fxD (l.drop A)) := by
  unfold fA; rw [opq_eq, Int.toNat_natCast]; unfold frCn; rw [lastB_at' h, if_pos g, frA_F]
theorem fP_y {l : List UInt8} {A : Nat} (h : A ≤ l.length) (g : frOk (l.drop A)) : fP l A = word (l.drop A) (frN (l.drop A) - 2) := by
  unfold fP; rw [opq_eq, Int.toNat_natCast]; unfold frPn; rw [lastB_at' h, if_pos g]
theorem fN_y {l : List UInt8} {A : Nat} (h : A ≤ l.length) (g : frOk (l.drop A)) : fN l A = frN (l.drop A) := by
  unfold fN; rw [opq_eq, Int.toNat_natCast]; unfold frNn; rw [lastB_at' h, if_pos g]
theorem fA_n {l : List UInt8} {A : Nat} (h : A ≤ l.length) (g : ¬ frOk (l.drop A)) : fA l A = adZ := by
  unfold fA; rw [opq_eq, Int.toNat_natCast]; unfold frCn; rw [lastB_at' h, if_neg g]
theorem fN_n {l : List UInt8} {A : Nat} (h : A ≤ l.length) (g : ¬ frOk (l.drop A)) : fN l A = 0 := by
  unfold fN; rw [opq_eq, Int.toNat_natCast]; unfold frNn; rw [lastB_at' h, if_neg g]
theorem fW_y {l : List UInt8} {A : Nat} (hl : l.length ≤ 1000000) (h : A ≤ l.length) (g : frOk (l.drop A)) (hb : A + frN (l.drop A) < l.length) : fW l A = byt l (A + frN (l.drop A)) := by
  unfold fW
  rw [fN_y h g, wrapI64 (n := (A : Int) + (frN (l.drop A) : Nat)) (by omega)]
  have e : 0 + ((A : Int) + (frN (l.drop A) : Nat)).toNat * 1 = A + frN (l.drop A) := by omega
  rw [e, bys_get, intV_byte]
  have := byt_range l (A + frN (l.drop A))
  exact wrapI64 (by omega)
theorem dm19_y (b : List UInt8) (v : Int) : dm19 (adF (decide (byt b 0 = 6)) (fxD b)) (word b (frN b - 2)) v = illC (dOf b) v := by kernel_rfl
theorem pz17 (w : Bool) (x : Nat → Int) : putCells adZ 0 (adF w x) = adF w x := by kernel_rfl
theorem tk17 (w : Bool) (x : Nat → Int) : List.take 17 (adF w x) = adF w x := by kernel_rfl
theorem pz18 (w : Bool) (x : Nat → Int) (p : Int) : dm18 (adF w x) p = adF w x ++ [.int .u16 p] := by kernel_rfl
theorem pz1 (w : Bool) (x : Nat → Int) : (putCells dipZ 0 (adF w x)).length = 18 := by kernel_rfl
theorem pz2 (w : Bool) (x : Nat → Int) (p : Int) : (putCells m19Z 0 (adF w x ++ [.int .u16 p])).length = 19 := by kernel_rfl
theorem adF_len (w : Bool) (x : Nat → Int) : (adF w x).length = 17 := by kernel_rfl
theorem adF_cell (w : Bool) (x : Nat → Int) : (adF w x).all AV.isCell = true := by kernel_rfl
theorem m19_ill (d : DipC) (v : Int) : putCells m19Z 0 (illC d v) = illC d v := putC d v
def stDc (l : List UInt8) (a : Nat) (k pr : Int) (w : Bool) (x : Nat → Int) (po : Int) (i : Nat) : List AV × AHeap := (vDc l (atM l a i), hDc l k pr w x po (itP (pM l a i)) i)
theorem sayFroL {h : AHeap} {l : List UInt8} {A r : Nat} {e : Bool} {md : Md} {par : Option Nat} (hk : h[0]? = some (.cells (bys l) 1 md par)) (hl : l.length ≤ 1000000) (hA : A ≤ l.length) :
    (bOk h (.sl (some (0, 0 + (A : Int).toNat * 1)) (l.length - (A : Int).toNat) r e) = true ∧ bOf h (.sl (some (0, 0 + (A : Int).toNat * 1)) (l.length - (A : Int).toNat) r e) = lastB l (l.length - (A : Int).toNat)) ∧ nOf (.sl (some (0, 0 + (A : Int).toNat * 1)) (l.length - (A : Int).toNat) r e) ≤ 1000000000000 := by
  have e0 : 0 + (A : Int).toNat * 1 = A := by omega
  rw [e0, Int.toNat_natCast, lastB_at hA]
  exact ⟨bOk_cut1 hk rfl (by omega) (List.take_of_length_le (by rw [List.length_drop]; exact Nat.le_refl _)), by show l.length - A ≤ _; omega⟩
theorem stepDc {l : List UInt8} {a : Nat} {k pr : Int} {w : Bool} {x : Nat → Int} {po : Int} {i : Nat} (hl : l.length ≤ 1000000) (hi : i ≤ l.length) (hg : gdM l a i) :
    ∃ vs1 h1, qround Try.prog (tDl l) 100 4 [(47, .bool true), (68, .bool false)] noT DCL mDc (stDc l a k pr w x po i).1 (stDc l a k pr w x po i).2 = some (.norm, vs1, h1) ∧ Gc 3 vs1 h1 (stDc l a k pr w x po (i + 1)).1 (stDc l a k pr w x po (i + 1)).2 := by
  obtain ⟨g1, g2⟩ := hg
  show ∃ vs1 h1, qround Try.prog (tDl l) 100 4 [(47, .bool true), (68, .bool false)] noT DCL mDc (vDc l (atM l a i)) (hDc l k pr w x po (itP (pM l a i)) i) = some (.norm, vs1, h1) ∧ Gc 3 vs1 h1 (vDc l (atM l a i + frN (l.drop (atM l a i)) + 1 : Nat)) (hDc l k pr w x po (itP (pM l a i ++ [(dOf (l.drop (atM l a i)), byt l (atM l a i + frN (l.drop (atM l a i))))])) (i + 1))
  have hC : (itP (pM l a i)).length = i * 19 := by rw [itP_length, pM_len]
  have g1' := g1
  generalize atM l a i = A at *
  have hA : A < l.length := by have := g1.1; rw [List.length_drop] at this; omega
  have hA' : A ≤ l.length := by omega
  have eA := fA_y hA' g1
  have eP := fP_y hA' g1
  have eN := fN_y hA' g1
  have eW := fW_y hl hA' g1 g2
  have e1 : IntKind.i64.wrap ((A : Int) + (frN (l.drop A) : Nat)) = ((A + frN (l.drop A) : Nat) : Int) := by rw [wrapI64 (by omega)]; omega
  have e2 : IntKind.i64.wrap (((A + frN (l.drop A) : Nat) : Int) + 1) = ((A + frN (l.drop A) + 1 : Nat) : Int) := by rw [wrapI64 (by omega)]; omega
  have e3 : 0 + ((A + frN (l.drop A) : Nat) : Int).toNat * 1 = A + frN (l.drop A) := by omega
  have hn0 : frN (l.drop A) ≠ 0 := g1.2.1
  rw [nfDcrR]
  refine ⟨?_, ?_, ?_, ?_⟩
  rotate_left 2
  · rw [eW]
    simp only [eA, eP, eN, e1, e2, e3, dm19_y, m19_ill, pz17, tk17, pz18]
    have kq := adF_len (decide (byt (l.drop A) 0 = 6)) (fxD (l.drop A))
    have kc := adF_cell (decide (byt (l.drop A) 0 = 6)) (fxD (l.drop A))
    have k4 := pz1 (decide (byt (l.drop A) 0 = 6)) (fxD (l.drop A))
    have k5 := pz2 (decide (byt (l.drop A) 0 = 6)) (fxD (l.drop A)) (word (l.drop A) (frN (l.drop A) - 2))
    refine (if_pos (by simp; omega)).trans ?_
    refine (if_pos (by omega)).trans ?_
    refine (if_pos (cdec_true.2 (sayFroL rfl hl hA'))).trans ?_
    refine (if_pos kq).trans ?_
    refine (if_pos ⟨by omega, kc⟩).trans ?_
    refine (if_neg (by simpa using hn0)).trans ?_
    refine (if_pos (by simp; omega)).trans ?_
    refine (if_pos (by omega)).trans ?_
    refine (if_pos ⟨kq, by decide⟩).trans ?_
    refine (if_pos ⟨rfl, by omega⟩).trans ?_
    refine (if_pos (by omega)).trans ?_
    refine (if_pos (by rw [bys_get, isIntV_byte]; simpa using g2)).trans ?_
    refine (if_pos ⟨by simp [kq], by decide⟩).trans ?_
    refine (if_pos ⟨rfl, by omega⟩).trans ?_
    refine (if_pos ⟨by simp, by decide⟩).trans ?_
    refine (if_pos (by simp)).trans ?_
    refine (if_pos ⟨by omega, trivial, by omega⟩).trans ?_
    refine (if_pos (by omega)).trans ?_
    refine (if_pos ⟨trivial, by omega, by simp, trivial, by rw [List.take_of_length_le (by simp)]; exact illC_cell _ _⟩).trans ?_
    rfl
  · unfold hDcrR1
    rw [eA, eP, eW, dm19_y, m19_ill]
    have et : List.take (i * 19) (itP (pM l a i)) ++ List.take 19 (illC (dOf (l.drop A)) (byt l (A + frN (l.drop A)))) = itP (pM l a i ++ [(dOf (l.drop A), byt l (A + frN (l.drop A)))]) := by
      rw [List.take_of_length_le (by omega), List.take_of_length_le (by simp), itP_append]
      simp [itP]
    rw [et]
    exact Gc.by [0, 1, 2, 6] rfl (by decide) (.cons _ _ _ _ (.sl _ _ _ _ _ _ rfl) (.cons _ _ _ _ (.ptr _ _ _ rfl) (.free _ rfl))) (.cons _ _ _ _ _ rfl (.row (by simp) (by simp)) (.cons _ _ _ _ _ rfl (.cells _ _ _ _ _ _ (ars_app (l := cmH k pr (dF w x po)) (cmH_free _ _ _) (.cons _ _ _ _ (.sl _ _ _ _ _ _ rfl) .nil)) (by simp)) (.cons _ _ _ _ _ rfl (.dead _) (.cons _ _ _ _ _ rfl (BR.grown (itP_frees _) rfl) .nil))))
theorem endDc {l : List UInt8} {a : Nat} {k pr : Int} {w : Bool} {x : Nat → Int} {po : Int} (hl : l.length ≤ 1000000) (ha : a ≤ l.length + 1) {n : Nat} (hn : n = nM l a) :
    ∃ pr' vs1 h1 m, qround Try.prog (tDl l) 100 4 pr' noT DCL mDc (stDc l a k pr w x po n).1 (stDc l a k pr w x po n).2 = some (.exit 0, vDc l m, h1) ∧ vs1 = vDc l m ∧ Gc 3 (vDc l m) h1 (vDc l m) (hDc l k pr w x po (itP (pM l a n)) n) := by
  have hb : ¬ gdM l a n := by rw [hn]; exact nM_bad l a
  have hle := atM_le ha (fun i hi => nM_good (l := l) (a := a) (i := i) (by omega)) (n := n)
  have okk : ∀ {X : ABlk} {m : Int}, Gc 3 (vDc l m) (hDc l k pr w x po (itP (pM l a n)) n ++ [X]) (vDc l m) (hDc l k pr w x po (itP (pM l a n)) n) := by
    intro X m
    exact Gc.by [0, 1, 2, 3] rfl (by decide) (.cons _ _ _ _ (.sl _ _ _ _ _ _ rfl) (.cons _ _ _ _ (.ptr _ _ _ rfl) (.free _ rfl))) (.cons _ _ _ _ _ rfl (.row (by simp) (by simp)) (.cons _ _ _ _ _ rfl (.cells _ _ _ _ _ _ (ars_app (l := cmH k pr (dF w x po)) (cmH_free _ _ _) (.cons _ _ _ _ (.sl _ _ _ _ _ _ rfl) .nil)) (by simp)) (.cons _ _ _ _ _ rfl (.dead _) (.cons _ _ _ _ _ rfl (.row (itP_frees _) (by simp)) .nil))))
  unfold gdM at hb
  show ∃ pr' vs1 h1 m, qround Try.prog (tDl l) 100 4 pr' noT DCL mDc (vDc l (atM l a n)) (hDc l k pr w x po (itP (pM l a n)) n) = some (.exit 0, vDc l m, h1) ∧ vs1 = vDc l m ∧ Gc 3 (vDc l m) h1 (vDc l m) (hDc l k pr w x po (itP (pM l a n)) n)
  generalize atM l a n = A at *
  by_cases hA : A < l.length
  · have hA' : A ≤ l.length := by omega
    by_cases g1 : frOk (l.drop A)
    · have g2 : ¬ A + frN (l.drop A) < l.length := fun h => hb ⟨g1, h⟩
      have g3 := g1.2.2
      rw [List.length_drop] at g3
      have eA := fA_y hA' g1
      have eN := fN_y hA' g1
      have e1 : IntKind.i64.wrap ((A : Int) + (frN (l.drop A) : Nat)) = ((A + frN (l.drop A) : Nat) : Int) := by rw [wrapI64 (by omega)]; omega
      refine ⟨[(47, .bool true), (68, .bool true)], _, hDcrB1 l k pr w x po (itP (pM l a n)) n A, ((A + frN (l.drop A) : Nat) : Int), (nfDcrB ..).trans ?_, rfl, okk⟩
      simp only [eA, eN, e1]
      refine (if_pos (by simp; omega)).trans ?_
      refine (if_pos (by omega)).trans ?_
      refine (if_pos (cdec_true.2 (sayFroL rfl hl hA'))).trans ?_
      refine (if_pos rfl).trans ?_
      refine (if_pos ⟨Nat.le_refl 17, rfl⟩).trans ?_
      refine (if_neg (by simpa using g1.2.1)).trans ?_
      refine (if_pos (by simp; omega)).trans ?_
      rfl
    · have eA := fA_n hA' g1
      have eN := fN_n hA' g1
      refine ⟨[(47, .bool true), (68, .bool true)], _, hDcrB1 l k pr w x po (itP (pM l a n)) n A, IntKind.i64.wrap ((A : Int) + 0), (nfDcrB ..).trans ?_, rfl, okk⟩
      simp only [eA, eN]
      refine (if_pos (by simp; omega)).trans ?_
      refine (if_pos (by omega)).trans ?_
      refine (if_pos (cdec_true.2 (sayFroL rfl hl hA'))).trans ?_
      refine (if_pos rfl).trans ?_
      refine (if_pos ⟨Nat.le_refl 17, rfl⟩).trans ?_
      exact if_pos (by rfl)
  · exact ⟨[(47, .bool false)], _, _, A, (nfDcrS ..).trans (if_pos (by simp; omega)), rfl, Gc.refl⟩
theorem loopDc {l : List UInt8} {a : Nat} {k pr : Int} {w : Bool} {x : Nat → Int} {po : Int} (hl : l.length ≤ 1000000) (ha : a ≤ l.length + 1) :
    ∃ m, ∃ t, GReach (roundG Try.prog (deepT Try.prog (tDl l) 100 4) (lsT noT) DCL mDc) 3 t (vDc l a) (hDc l k pr w x po [] 0) (.exit 0) (vDc l m) (hDc l k pr w x po (itP (pM l a (nM l a))) (nM l a)) := by
  obtain ⟨pr', vs1, h1, m, e1, rfl, e3⟩ := endDc (k := k) (pr := pr) (w := w) (x := x) (po := po) hl ha (n := nM l a) rfl
  have hn := nM_le l a
  exact ⟨m, loop_T (stDc l a k pr w x po) (N := nM l a) (by simp) (fun i hi => ⟨_, stepDc hl (by omega) (nM_good hi)⟩) ⟨_, _, _, e1, e3⟩⟩

theorem sayEqB {h : AHeap} {a b : AV} {x y : List UInt8} {r : Bool} (ga : bOk h a = true ∧ bOf h a = x) (gb : bOk h b = true ∧ bOf h b = y) (hr : decide (x = y) = r) : Says eEqual [a, b] h (.bool r) [] := ⟨by
  show some (bOk h a && bOk h b, AV.bool (decide (bOf h a = bOf h b)), h) = _
  rw [ga.1, gb.1, ga.2, gb.2, hr]; simp⟩
theorem preDc {l : List UInt8} {k pr : Int} {w : Bool} {x : Nat → Int} {po : Int} {vs : List AV} {i : Int} {B : ABlk} (hv : vs = vDc l i) : Pre 3 vs [farB l, .cells (cmA k pr w x po (.sl none 0 0 true)) 21 .own none, B] (vDc l i) (hDc l k pr w x po [] 0) := by
  subst hv
  refine .gc _ _ _ [farB l, .cells (cmA k pr w x po (.sl none 0 0 true)) 21 .own none, .dead] _ _ ?_ (.void 19 _ _ (vDc l i) (hDc l k pr w x po [] 0) _ _ (NRs.refl _) ?_ (.done _ _))
  · exact Gc.by [0, 1, 2] rfl (by decide) (.cons _ _ _ _ (.sl _ _ _ _ _ _ rfl) (.cons _ _ _ _ (.ptr _ _ _ rfl) (.free _ rfl))) (.cons _ _ _ _ _ rfl (.row (by simp) (by simp)) (.cons _ _ _ _ _ rfl (.row rfl (by simp)) (.cons _ _ _ _ _ rfl (.dead _) .nil)))
  · exact .cons _ _ _ _ (.same _) (.cons _ _ _ _ (.cells _ _ _ _ _ (nrs_app (.void true _ _ .nil) (cmH k pr (dF w x po)))) (.cons _ _ _ _ (.same _) (.cons _ _ _ _ (.same _) .nil)))
theorem runDc {l : List UInt8} (hl : l.length ≤ 1000000) (m : Nat) {k pr : Int} {d : DipC} {P : PL} {e : Int} (hG : dcH l k pr d P e) :
    ∃ v1 h1, Runs Try.prog 8 [slB 0 l] [farB l] v1 h1 ∧ ∃ ks, Den h1 1 m ks v1 (.tup [.agg (cmF k pr d (.sl (some (m, 0)) P.length 0 false)), .int .i64 e]) [.cells (itP P) 19 .own none] ∧ KsOk ks := by
  have no : ∀ {h' : AHeap}, (∀ k pr d P, ¬ GoodC l k pr d P) → ∃ ks, Den h' 1 m ks (.tup [.agg (cmF 0 0 dZ (.sl none 0 0 true)), .int .i64 2]) (.tup [.agg (cmF k pr d (.sl (some (m, 0)) P.length 0 false)), .int .i64 e]) [.cells (itP P) 19 .own none] ∧ KsOk ks := by
    intro h' hn
    rcases hG with ⟨h, _⟩ | ⟨_, rfl, rfl, rfl, rfl, rfl⟩
    · exact absurd h (hn _ _ _ _)
    · exact ⟨_, denCm rfl (.nil m true 19), ksOk1 _⟩
  by_cases h2 : l.length < 2
  · have hn : ∀ k pr d P, ¬ GoodC l k pr d P := fun k pr d P h => by have := (goodC_parse h).1; omega
    obtain ⟨h', hr⟩ := Runs.valT0 (tDcOk (.bool true) [] 0 true) (F := 100) (n := 4) (pr := [(15, .bool true)]) ((nfDcX l _).trans (if_pos (by simp; omega)))
    obtain ⟨ks, h⟩ := no hn
    exact ⟨_, h', hr, ks, h⟩
  have lp : loopsOf (bodyOf Try.prog 8) = [DCL] := by kernel_rfl
  have c0 : isIntV IntKind.u8 (bys l)[0]? = true := by simp; omega
  have c1 : isIntV IntKind.u8 (bys l)[1]? = true := by simp; omega
  have v0 : intV (bys l)[0]? = byt l 0 := by simp
  have v1 : intV (bys l)[1]? = byt l 1 := by simp
  have r0 := byt_range l 0
  have r1 := byt_range l 1
  have w0 : IntKind.i64.wrap (byt l 0) = byt l 0 := wrapI64 (by omega)
  obtain ⟨w, x, po, nn, hfr, hnn, hd, hdo⟩ : ∃ (w : Bool) (x : Nat → Int) (po : Int) (nn : Nat), fromV (l.drop 2) = .tup [.agg (adF w x), .int .u16 po, .int .i64 (nn : Int)] ∧ nn + 2 ≤ l.length ∧ okD (dF w x po) ∧ (frOk (l.drop 2) → dF w x po = dOf (l.drop 2) ∧ nn = frN (l.drop 2)) := by
    by_cases h : frOk (l.drop 2)
    · refine ⟨decide (byt (l.drop 2) 0 = 6), fxD (l.drop 2), word (l.drop 2) (frN (l.drop 2) - 2), frN (l.drop 2), ?_, ?_, dOf_ok _, fun _ => ⟨rfl, rfl⟩⟩
      · unfold fromV; rw [if_pos h, frA_F]
      · have := h.2.2; rw [List.length_drop] at this; omega
    · exact ⟨false, fun _ => 0, 0, 0, by unfold fromV; rw [if_neg h]; rfl, by omega, ⟨rfl, by decide, by decide⟩, fun g => absurd g h⟩
  have ha : 2 + nn + 1 ≤ l.length + 1 := by omega
  obtain ⟨mm, hloop⟩ := loopDc (k := byt l 0) (pr := byt l 1) (w := w) (x := x) (po := po) hl ha
  have hN := nM_le l (2 + nn + 1)
  have hPk := pM_ok l (2 + nn + 1) (nM l (2 + nn + 1))
  have hPl := pM_len l (2 + nn + 1) (nM l (2 + nn + 1))
  have hpar : ∀ {k' pr' : Int} {d' : DipC} {P' : PL}, GoodC l k' pr' d' P' → GoodC l (byt l 0) (byt l 1) (dF w x po) (pM l (2 + nn + 1) (nM l (2 + nn + 1))) := by
    intro k' pr' d' P' h
    obtain ⟨g1, g2, g3, g4, g5, _⟩ := goodC_parse h
    obtain ⟨_, w1, w2, _⟩ := goodC_walk h
    obtain ⟨q1, q2⟩ := hdo g4
    subst q2
    rw [w1, w2, q1, g5, g2, g3]; exact h
  generalize hP' : pM l (2 + nn + 1) (nM l (2 + nn + 1)) = Q at *
  generalize nM l (2 + nn + 1) = N at *
  have ew : IntKind.i64.wrap (IntKind.i64.wrap (2 + (nn : Int)) + 1) = ((2 + nn + 1 : Nat) : Int) := by rw [wrapI64 (n := 2 + (nn : Int)) (by omega), wrapI64 (by omega)]; omega
  have hQl : Q.length ≤ 1000000 := by omega
  have hQo : okP Q := fun m hm => (hPk m hm).1
  have key : True → ∃ vs2 h2, Pre 3 [.sl (some (0, 0)) l.length 0 false, .ptr (some (1, 0)), .int .i64 (IntKind.i64.wrap (IntKind.i64.wrap (2 + (nn : Int)) + 1))] [farB l, .cells (cmA (IntKind.i64.wrap (intV (bys l)[0]?)) (intV (bys l)[1]?) w x po (.sl none 0 0 true)) 21 .own none, .cells (adF w x) 17 .own none] vs2 h2 ∧ ∃ t, GReach (roundG Try.prog (deepT Try.prog (tDl l) 100 4) (lsT noT) DCL mDc) 3 t vs2 h2 (.exit 0) (vDc l mm) (hDc l (byt l 0) (byt l 1) w x po (itP Q) N) := by
    intro _
    rw [v0, v1, w0, ew]
    exact ⟨_, _, preDc rfl, hloop⟩
  have fr : ∀ {h : AHeap} {r : Nat}, h[0]? = some (farB l) → Says eFro [.sl (some (0, 2)) (l.length - 2) r false] h (.tup [.agg (adF w x), .int .u16 po, .int .i64 (nn : Int)]) [] := fun {h r} hk => sayFro (l := l.drop 2) (bOk_cut1 hk rfl (by omega) (List.take_of_length_le (by rw [List.length_drop]; exact Nat.le_refl _))) (by show l.length - 2 ≤ _; omega) hfr
  have en : ∀ {h : AHeap} {Z : List UInt8} {e : Int}, h = hDc l (byt l 0) (byt l 1) w x po (itP Q) N → encZ (byt l 0) (byt l 1) (dF w x po) Q = Z → encE (byt l 0) (dF w x po) Q = e → EnR [.agg (cmA (byt l 0) (byt l 1) w x po (.sl (some (3, 0)) N 0 false))] h (.tup [slB 4 Z, .int .i64 e]) [ownB Z] := by
    rintro h Z e rfl hZ he
    exact .mk Q _ _ (dF w x po) _ _ (rowP_blk rfl hPl.symm) hQl hd hQo r1 Z hZ e he 4 rfl

  by_cases hm : mayM (byt l 0) (dF w x po) Q
  case neg =>
    have hn : ∀ k pr d P, ¬ GoodC l k pr d P := fun k pr d P h => hm (hpar h).1
    have e1 : encZ (byt l 0) (byt l 1) (dF w x po) Q = [] := if_neg hm
    have e2 : encE (byt l 0) (dF w x po) Q = 2 := if_neg hm
    generalize ([] : List UInt8) = Z at e1
    obtain ⟨h', hr⟩ := Runs.valT (tDcOk (.tup [.agg (adF w x), .int .u16 po, .int .i64 nn]) Z 2 false) (F := 100) (n := 4) (pr := [(15, .bool false), (95, .bool true)]) (only (k := 8) lp (fixP_T (tDlOk l) (F := 100) (n := 4) (LS := noT) (noLoops (by kernel_rfl)) key)) ((nfDcE l w x po nn Z True _ _ (byt l 0) (byt l 1) (itP Q) N mm _).trans (by
      refine (if_pos (by simp; omega)).trans ?_
      refine (if_pos (by simp; omega)).trans ?_
      refine (if_pos c0).trans ?_
      refine (if_pos (by simp; omega)).trans ?_
      refine (if_pos c1).trans ?_
      refine (if_pos c1).trans ?_
      refine (if_pos (AV.beq_self _)).trans ?_
      refine (if_pos (by simp; omega)).trans ?_
      refine (if_pos (cdec_true.2 (fr rfl))).trans ?_
      refine (if_pos (cdec_true.2 ⟨trivial, rfl, rfl⟩)).trans ?_
      exact if_pos (cdec_true.2 (en rfl e1 e2))))
    obtain ⟨ks, h⟩ := no hn
    exact ⟨_, h', hr, ks, h⟩
  have e2 : encE (byt l 0) (dF w x po) Q = 0 := if_pos hm
  generalize hZ : encL (byt l 0) (byt l 1) (dF w x po) Q = Z
  have e1 : encZ (byt l 0) (byt l 1) (dF w x po) Q = Z := (if_pos hm).trans hZ
  have eq : ∀ {h : AHeap} {b : Bool}, h[4]? = some (ownB Z) → h[0]? = some (farB l) → decide (Z = l) = b → Says eEqual [.sl (some (4, 0)) Z.length 0 false, .sl (some (0, 0)) l.length 0 false] h (.bool b) [] := fun {h b} h4 h0 hb => sayEqB (bOk_row h4 rfl rfl) (bOk_row h0 rfl rfl) hb
  by_cases hl2 : Z = l
  case neg =>
    have hn : ∀ k pr d P, ¬ GoodC l k pr d P := fun k pr d P h => hl2 (hZ.symm.trans (hpar h).2.2.2.2)
    obtain ⟨h', hr⟩ := Runs.valT (tDcOk (.tup [.agg (adF w x), .int .u16 po, .int .i64 nn]) Z 0 false) (F := 100) (n := 4) (pr := [(15, .bool false), (95, .bool true)]) (only (k := 8) lp (fixP_T (tDlOk l) (F := 100) (n := 4) (LS := noT) (noLoops (by kernel_rfl)) key)) ((nfDcF l w x po nn Z True _ _ (byt l 0) (byt l 1) (itP Q) N mm _).trans (by
      refine (if_pos (by simp; omega)).trans ?_
      refine (if_pos (by simp; omega)).trans ?_
      refine (if_pos c0).trans ?_
      refine (if_pos (by simp; omega)).trans ?_
      refine (if_pos c1).trans ?_
      refine (if_pos c1).trans ?_
      refine (if_pos (AV.beq_self _)).trans ?_
      refine (if_pos (by simp; omega)).trans ?_
      refine (if_pos (cdec_true.2 (fr rfl))).trans ?_
      refine (if_pos (cdec_true.2 ⟨trivial, rfl, rfl⟩)).trans ?_
      refine (if_pos (cdec_true.2 (en rfl e1 e2))).trans ?_
      exact if_pos (cdec_true.2 (eq rfl rfl (decide_eq_false hl2)))))
    obtain ⟨ks, h⟩ := no hn
    exact ⟨_, h', hr, ks, h⟩
  have hg : GoodC l (byt l 0) (byt l 1) (dF w x po) Q := ⟨hm, hd, hQo, r1, hZ.trans hl2⟩
  rcases hG with ⟨h, he⟩ | ⟨h, _⟩
  case inr => exact absurd hg (h _ _ _ _)
  obtain ⟨u1, u2, u3, u4⟩ := goodC_uniq h hg
  rw [u1, u2, u3, u4, he]
  refine ⟨.tup [.agg (cmF (byt l 0) (byt l 1) (dF w x po) (.sl (some (3, 0)) N 0 false)), .int .i64 0], hDcG5 l w x po nn Z True [] [] (byt l 0) (byt l 1) (itP Q) N mm, Runs.ofT (tDcOk (.tup [.agg (adF w x), .int .u16 po, .int .i64 nn]) Z 0 true) (F := 100) (n := 4) (pr := [(15, .bool false), (95, .bool false)]) (only (k := 8) lp (fixP_T (tDlOk l) (F := 100) (n := 4) (LS := noT) (noLoops (by kernel_rfl)) key)) ((nfDcG l w x po nn Z True _ _ (byt l 0) (byt l 1) (itP Q) N mm _).trans (by
      refine (if_pos (by simp; omega)).trans ?_
      refine (if_pos (by simp; omega)).trans ?_
      refine (if_pos c0).trans ?_
      refine (if_pos (by simp; omega)).trans ?_
      refine (if_pos c1).trans ?_
      refine (if_pos c1).trans ?_
      refine (if_pos (AV.beq_self _)).trans ?_
      refine (if_pos (by simp; omega)).trans ?_
      refine (if_pos (cdec_true.2 (fr rfl))).trans ?_
      refine (if_pos (cdec_true.2 ⟨trivial, rfl, rfl⟩)).trans ?_
      refine (if_pos (cdec_true.2 (en rfl e1 e2))).trans ?_
      exact if_pos (cdec_true.2 (eq rfl rfl (decide_eq_true hl2))))), [some 3], ?_, ksOk1 _⟩
  refine denCm rfl ?_
  rw [hPl]
  exact denRowN (by omega) rfl (by omega) (by rw [itP_length]; omega) (itP_frees _)
inductive DcR : List AV → AHeap → AV → AHeap → Prop
  | mk (l : List UInt8) (h : AHeap) (a : AV) (g : bOk h a = true ∧ bOf h a = l) (hl : l.length ≤ 1000000) (k pr : Int) (d : DipC) (P : PL) (e : Int) (hG : dcH l k pr d P e) (j : Nat) (hj : h.length = j) : DcR [a] h (.tup [.agg (cmF k pr d (.sl (some (j, 0)) P.length 0 false)), .int .i64 e]) [.cells (itP P) 19 .own none]
theorem sDc (L : List (Nat × AV × AHeap)) : SoundE Try.prog 8 (entF (eRel DcR L)) := by
  refine relR_sound (fun args h v new hR => ?_) L
  cases hR with
  | mk l _ a g hl k pr d P e hG j hj =>
  subst hj
  obtain ⟨ga, rfl⟩ := g
  obtain ⟨v1, h1, h2, ks, h3, h4⟩ := runDc hl h.length hG
  exact ⟨[slB 0 (bOf h a)], [farB (bOf h a)], .cons _ _ _ _ _ _ _ (bOk_canon ga 0) (.nil _), v1, h1, h2, ks, h3, h4⟩


end Go.Proofs.Ytjlepcfeeicdfaa.L
