/- The reference's Decode: its contract. -/
import Derived.Test.YtjlepcfeeicdfaaRcN
set_option autoImplicit false
set_option maxRecDepth 100000
set_option linter.unusedVariables false
set_option linter.unusedSimpArgs false
namespace Go.Proofs.Ytjlepcfeeicdfaa.L
open Go Go.Abs

theorem sRdL (l : List UInt8) : SoundE Try.prog 28 (entF (eRdL l)) := by
  refine canonV_sound fun args h v h' hg => ?_
  unfold eRdL at hg
  split at hg
  · rename_i b i
    simp only [Option.some.injEq, Prod.mk.injEq] at hg
    obtain ⟨hc, rfl, rfl⟩ := hg
    rw [cdec_true] at hc
    obtain ⟨⟨hb, he⟩, hn, hi⟩ := hc
    have ev : (AV.tup [.agg (opq rdC l i), .int .i64 (opq rdX l i), .bool (opq rdB l i)]) = rdVL l i.toNat := by
      rw [opq_eq, opq_eq, opq_eq]
      unfold rdVL rdC rdX rdB
      by_cases h : frOk (l.drop i.toNat)
      · simp only [if_pos h, decide_eq_true h]
      · simp only [if_neg h, decide_eq_false h]
    rw [ev, ← he]
    have hn' := hn
    rw [← bOk_len hb] at hn'
    have hi' : (i.toNat : Int) = i := by omega
    have hr := runRd (bOf h b) i.toNat hn' (by omega)
    rw [hi'] at hr
    exact ⟨rfl, rdVL_free _ _, [slB 0 (bOf h b), .int .i64 i], [farB (bOf h b)], .cons _ _ _ _ _ _ _ (bOk_canon hb 0) (.cons _ _ _ _ _ _ _ (.flat _ _ rfl) (.nil _)), hr⟩
  · simp at hg
theorem tRlOk (l : List UInt8) : ∀ f E, (tRl l).find f = some E → SoundE Try.prog f E := find_cons (sRdL l) (find_nil _)
theorem rdC_y {l : List UInt8} {A : Nat} (g : frOk (l.drop A)) : opq rdC l (A : Int) = (dOf (l.drop A)).cells := by
  rw [opq_eq]; unfold rdC; rw [Int.toNat_natCast, if_pos g, dOf_cells]
theorem rdX_y {l : List UInt8} {A : Nat} (g : frOk (l.drop A)) : opq rdX l (A : Int) = ((A + frN (l.drop A) : Nat) : Int) := by
  rw [opq_eq]; unfold rdX; rw [Int.toNat_natCast, if_pos g]
theorem rdB_y {l : List UInt8} {A : Nat} (g : frOk (l.drop A)) : opq rdB l (A : Int) = true := by
  rw [opq_eq]; unfold rdB; rw [Int.toNat_natCast]; exact decide_eq_true g
theorem rdC_n {l : List UInt8} {A : Nat} (g : ¬ frOk (l.drop A)) : opq rdC l (A : Int) = dZ.cells := by
  rw [opq_eq]; unfold rdC; rw [Int.toNat_natCast, if_neg g]; rfl
theorem rdB_n {l : List UInt8} {A : Nat} (g : ¬ frOk (l.drop A)) : opq rdB l (A : Int) = false := by
  rw [opq_eq]; unfold rdB; rw [Int.toNat_natCast]; exact decide_eq_false g
theorem pzF (w : Bool) (x : Nat → Int) (po : Int) : putCells dipZ 0 (dF w x po).cells = (dF w x po).cells := by kernel_rfl
theorem pzd (d : DipC) : putCells dipZ 0 d.cells = d.cells := by
  obtain ⟨w, x, po, rfl⟩ := dF_of d
  exact pzF w x po
theorem tk18 (d : DipC) : List.take 18 d.cells = d.cells := List.take_of_length_le (by simp)
theorem pmF (w : Bool) (x : Nat → Int) (po v : Int) : putCells (putCells m19Z 0 (dF w x po).cells) 18 [.int .i64 v] = illC (dF w x po) v := by kernel_rfl
theorem pmd (d : DipC) (v : Int) : putCells (putCells m19Z 0 d.cells) 18 [.int .i64 v] = illC d v := by
  obtain ⟨w, x, po, rfl⟩ := dF_of d
  exact pmF w x po v
theorem pmlF (w : Bool) (x : Nat → Int) (po : Int) : (putCells m19Z 0 (dF w x po).cells).length = 19 := by kernel_rfl
theorem pml (d : DipC) : (putCells m19Z 0 d.cells).length = 19 := by
  obtain ⟨w, x, po, rfl⟩ := dF_of d
  exact pmlF w x po
theorem dcellF (w : Bool) (x : Nat → Int) (po : Int) : (dF w x po).cells.all AV.isCell = true := by kernel_rfl
theorem dcell (d : DipC) : d.cells.all AV.isCell = true := by
  obtain ⟨w, x, po, rfl⟩ := dF_of d
  exact dcellF w x po
def stRc (l : List UInt8) (a n : Nat) (k pr : Int) (w : Bool) (x : Nat → Int) (po : Int) (i : Nat) : List AV × AHeap := (vRc l (atM l a i) n i, hRc l k pr w x po (itP (pM l a i)) i)
theorem sayRdL {h : AHeap} {l : List UInt8} {A : Nat} {md : Md} {par : Option Nat} (hk : h[0]? = some (.cells (bys l) 1 md par)) (hl : l.length ≤ 1000000) (hA : A ≤ l.length + 1) :
    (bOk h (.sl (some (0, 0)) l.length 0 false) = true ∧ bOf h (.sl (some (0, 0)) l.length 0 false) = l) ∧ nOf (.sl (some (0, 0)) l.length 0 false) ≤ 1000000000000 ∧ (0 : Int) ≤ (A : Int) ∧ (A : Int) ≤ 1000000000000 :=
  ⟨bOk_row hk rfl rfl, by show l.length ≤ _; omega, by omega, by omega⟩
theorem stepRc {l : List UInt8} {a n : Nat} {k pr : Int} {w : Bool} {x : Nat → Int} {po : Int} {i : Nat} (hl : l.length ≤ 1000000) (hn : n < 256) (hi : i < n) (hg : gdM l a i) :
    ∃ vs1 h1, qround Try.prog (tRl l) 100 4 [(73, .bool true), (90, .bool false)] noT RCL mRc (stRc l a n k pr w x po i).1 (stRc l a n k pr w x po i).2 = some (.norm, vs1, h1) ∧ Gc 4 vs1 h1 (stRc l a n k pr w x po (i + 1)).1 (stRc l a n k pr w x po (i + 1)).2 := by
  obtain ⟨g1, g2⟩ := hg
  show ∃ vs1 h1, qround Try.prog (tRl l) 100 4 [(73, .bool true), (90, .bool false)] noT RCL mRc (vRc l (atM l a i) n i) (hRc l k pr w x po (itP (pM l a i)) i) = some (.norm, vs1, h1) ∧ Gc 4 vs1 h1 (vRc l (atM l a i + frN (l.drop (atM l a i)) + 1 : Nat) n ((i + 1 : Nat) : Int)) (hRc l k pr w x po (itP (pM l a i ++ [(dOf (l.drop (atM l a i)), byt l (atM l a i + frN (l.drop (atM l a i))))])) (i + 1))
  have hC : (itP (pM l a i)).length = i * 19 := by rw [itP_length, pM_len]
  generalize atM l a i = A at *
  have hA : A < l.length := by have := g1.1; rw [List.length_drop] at this; omega
  have eC := rdC_y g1
  have eX := rdX_y g1
  have eB := rdB_y g1
  have e2 : IntKind.i64.wrap (((A + frN (l.drop A) : Nat) : Int) + 1) = ((A + frN (l.drop A) + 1 : Nat) : Int) := by rw [wrapI64 (by omega)]; omega
  have e3 : 0 + ((A + frN (l.drop A) : Nat) : Int).toNat * 1 = A + frN (l.drop A) := by omega
  have e5 := wrap1 (i := i) (by omega)
  have rb := byt_range l (A + frN (l.drop A))
  have e6 : IntKind.i64.wrap (byt l (A + frN (l.drop A))) = byt l (A + frN (l.drop A)) := wrapI64 (by omega)
  have q1 : (dOf (l.drop A)).cells.length = 18 := by simp
  have q2 := dcell (dOf (l.drop A))
  have q3 := pml (dOf (l.drop A))
  rw [nfRcrR]
  refine ⟨?_, ?_, ?_, ?_⟩
  rotate_left 2
  · simp only [eC, eX, eB, e2, e3, e5, bys_get, intV_byte, e6, pzd, tk18, pmd, m19_ill]
    refine (if_pos (by simpa using hi)).trans ?_
    refine (if_pos (cdec_true.2 (sayRdL rfl hl (by omega)))).trans ?_
    refine (if_pos q1).trans ?_
    refine (if_pos ⟨by omega, q2⟩).trans ?_
    refine (if_neg (by decide)).trans ?_
    refine (if_pos (by simp; omega)).trans ?_
    refine (if_pos (by omega)).trans ?_
    refine (if_pos (by omega)).trans ?_
    refine (if_pos (by rw [isIntV_byte]; simpa using g2)).trans ?_
    refine (if_pos ⟨q1, by decide⟩).trans ?_
    refine (if_pos ⟨rfl, by omega⟩).trans ?_
    refine (if_pos ⟨by simp, by decide⟩).trans ?_
    refine (if_pos (by simp)).trans ?_
    refine (if_pos ⟨by omega, trivial, by omega⟩).trans ?_
    refine (if_pos (by omega)).trans ?_
    refine (if_pos ⟨trivial, by omega, by simp, trivial, by rw [List.take_of_length_le (by simp)]; exact illC_cell _ _⟩).trans ?_
    rfl
  · unfold hRcrR1
    simp only [eC, eX, eB, e3, bys_get, intV_byte, e6, pzd, tk18, pmd, m19_ill]
    have et : List.take (i * 19) (itP (pM l a i)) ++ List.take 19 (illC (dOf (l.drop A)) (byt l (A + frN (l.drop A)))) = itP (pM l a i ++ [(dOf (l.drop A), byt l (A + frN (l.drop A)))]) := by
      rw [List.take_of_length_le (by omega), List.take_of_length_le (by simp), itP_append]
      simp [itP]
    rw [et]
    exact Gc.by [0, 1, 2, 3, 7] rfl (by decide) (.cons _ _ _ _ (.sl _ _ _ _ _ _ rfl) (.cons _ _ _ _ (.ptr _ _ _ rfl) (.cons _ _ _ _ (.free _ rfl) (.cons _ _ _ _ (.free _ rfl) (.cons _ _ _ _ (.ptr _ _ _ rfl) (.free _ rfl)))))) (.cons _ _ _ _ _ rfl (.row (by simp) (by simp)) (.cons _ _ _ _ _ rfl (.row rfl (by simp)) (.cons _ _ _ _ _ rfl (.dead _) (.cons _ _ _ _ _ rfl (.cells _ _ _ _ _ _ (ars_app (l := cmH k pr (dF w x po)) (cmH_free _ _ _) (.cons _ _ _ _ (.sl _ _ _ _ _ _ rfl) .nil)) (by simp)) (.cons _ _ _ _ _ rfl (BR.grown (itP_frees _) rfl) .nil)))))
theorem badRc {l : List UInt8} {a n : Nat} {k pr : Int} {w : Bool} {x : Nat → Int} {po : Int} {i : Nat} (hl : l.length ≤ 1000000) (hn : n < 256) (hi : i < n) (hA : atM l a i ≤ l.length + 1) (hg : ¬ gdM l a i) :
    ∃ vs1 h1, qround Try.prog (tRl l) 100 4 [(73, .bool true), (90, .bool true)] noT RCL mRc (stRc l a n k pr w x po i).1 (stRc l a n k pr w x po i).2 = some (.ret, vs1, h1) ∧ Gc 4 vs1 h1 (stRc l a n k pr w x po i).1 (stRc l a n k pr w x po i).2 := by
  unfold gdM at hg
  show ∃ vs1 h1, qround Try.prog (tRl l) 100 4 [(73, .bool true), (90, .bool true)] noT RCL mRc (vRc l (atM l a i) n i) (hRc l k pr w x po (itP (pM l a i)) i) = some (.ret, vs1, h1) ∧ Gc 4 vs1 h1 (vRc l (atM l a i) n i) (hRc l k pr w x po (itP (pM l a i)) i)
  generalize atM l a i = A at *
  refine ⟨vRc l A n i, hRcrB1 l k pr w x po (itP (pM l a i)) i A n i, (nfRcrB ..).trans ?_, ?_⟩
  · by_cases g1 : frOk (l.drop A)
    · have g2 : ¬ A + frN (l.drop A) < l.length := fun h => hg ⟨g1, h⟩
      simp only [rdC_y g1, rdX_y g1, rdB_y g1]
      refine (if_pos (by simpa using hi)).trans ?_
      refine (if_pos (cdec_true.2 (sayRdL rfl hl hA))).trans ?_
      refine (if_pos (by simp)).trans ?_
      refine (if_pos ⟨by simp, dcell _⟩).trans ?_
      refine (if_neg (by decide)).trans ?_
      exact if_pos (by simp; omega)
    · simp only [rdC_n g1, rdB_n g1]
      refine (if_pos (by simpa using hi)).trans ?_
      refine (if_pos (cdec_true.2 (sayRdL rfl hl hA))).trans ?_
      refine (if_pos (by simp)).trans ?_
      refine (if_pos ⟨by simp, dcell _⟩).trans ?_
      exact if_pos rfl
  · exact Gc.by [0, 1, 2, 3, 4] rfl (by decide) (.cons _ _ _ _ (.sl _ _ _ _ _ _ rfl) (.cons _ _ _ _ (.ptr _ _ _ rfl) (.cons _ _ _ _ (.free _ rfl) (.cons _ _ _ _ (.free _ rfl) (.cons _ _ _ _ (.ptr _ _ _ rfl) (.free _ rfl)))))) (.cons _ _ _ _ _ rfl (.row (by simp) (by simp)) (.cons _ _ _ _ _ rfl (.row rfl (by simp)) (.cons _ _ _ _ _ rfl (.dead _) (.cons _ _ _ _ _ rfl (.cells _ _ _ _ _ _ (ars_app (l := cmH k pr (dF w x po)) (cmH_free _ _ _) (.cons _ _ _ _ (.sl _ _ _ _ _ _ rfl) .nil)) (by simp)) (.cons _ _ _ _ _ rfl (.row (itP_frees _) (by simp)) .nil)))))
theorem loopRc {l : List UInt8} {a n : Nat} {k pr : Int} {w : Bool} {x : Nat → Int} {po : Int} (hl : l.length ≤ 1000000) (hn : n < 256) (hg : ∀ i, i < n → gdM l a i) :
    ∃ t, GReach (roundG Try.prog (deepT Try.prog (tRl l) 100 4) (lsT noT) RCL mRc) 4 t (vRc l a n 0) (hRc l k pr w x po [] 0) (.exit 0) (vRc l (atM l a n) n n) (hRc l k pr w x po (itP (pM l a n)) n) :=
  loop_T (stRc l a n k pr w x po) (N := n) (by simp) (fun i hi => ⟨_, stepRc hl hn hi (hg i hi)⟩) ⟨_, _, _, (nfRcrS ..).trans (if_pos (by simp)), Gc.refl⟩
theorem loopRcB {l : List UInt8} {a n : Nat} {k pr : Int} {w : Bool} {x : Nat → Int} {po : Int} (hl : l.length ≤ 1000000) (ha : a ≤ l.length + 1) (hn : n < 256) (hg : nM l a < n) :
    ∃ t, GReach (roundG Try.prog (deepT Try.prog (tRl l) 100 4) (lsT noT) RCL mRc) 4 t (vRc l a n 0) (hRc l k pr w x po [] 0) .ret (vRc l (atM l a (nM l a)) n (nM l a)) (hRc l k pr w x po (itP (pM l a (nM l a))) (nM l a)) := by
  obtain ⟨vs1, h1, e1, e2⟩ := badRc (k := k) (pr := pr) (w := w) (x := x) (po := po) hl hn hg (atM_le ha fun i hi => nM_good hi) (nM_bad l a)
  exact loop_T (stRc l a n k pr w x po) (N := nM l a) (by simp) (fun i hi => ⟨_, stepRc hl hn (by omega) (nM_good hi)⟩) ⟨_, _, _, e1, e2⟩
theorem preRc {l : List UInt8} {k pr : Int} {w : Bool} {x : Nat → Int} {po : Int} {vs : List AV} {a n i : Int} {B : ABlk} (hv : vs = vRc l a n i) : Pre 4 vs [farB l, .cells zCm 21 .own none, B, .cells (cmA k pr w x po (.sl none 0 0 true)) 21 .own none] (vRc l a n i) (hRc l k pr w x po [] 0) := by
  subst hv
  refine .gc _ _ _ [farB l, .cells zCm 21 .own none, .dead, .cells (cmA k pr w x po (.sl none 0 0 true)) 21 .own none] _ _ ?_ (.void 19 _ _ (vRc l a n i) (hRc l k pr w x po [] 0) _ _ (NRs.refl _) ?_ (.done _ _))
  · exact Gc.by [0, 1, 2, 3] rfl (by decide) (.cons _ _ _ _ (.sl _ _ _ _ _ _ rfl) (.cons _ _ _ _ (.ptr _ _ _ rfl) (.cons _ _ _ _ (.free _ rfl) (.cons _ _ _ _ (.free _ rfl) (.cons _ _ _ _ (.ptr _ _ _ rfl) (.free _ rfl)))))) (.cons _ _ _ _ _ rfl (.row (by simp) (by simp)) (.cons _ _ _ _ _ rfl (.row rfl (by simp)) (.cons _ _ _ _ _ rfl (.dead _) (.cons _ _ _ _ _ rfl (.row rfl (by simp)) .nil))))
  · exact .cons _ _ _ _ (.same _) (.cons _ _ _ _ (.same _) (.cons _ _ _ _ (.same _) (.cons _ _ _ _ (.cells _ _ _ _ _ (nrs_app (.void true _ _ .nil) (cmH k pr (dF w x po)))) (.cons _ _ _ _ (.same _) .nil))))

def rcD (l : List UInt8) : Prop := 2 ≤ l.length ∧ byt l 0 = 2 ∧ frOk (l.drop 2)
def rcH (l : List UInt8) (k pr : Int) (d : DipC) (P : PL) (r : Bool) : Prop := (GoodC l k pr d P ∧ r = true) ∨ ((∀ k pr d P, ¬ GoodC l k pr d P) ∧ r = false ∧ ((rcD l ∧ k = byt l 0 ∧ pr = byt l 1 ∧ d = dOf (l.drop 2) ∧ P = []) ∨ (¬ rcD l ∧ k = 0 ∧ pr = 0 ∧ d = dZ ∧ P = [])))
theorem runRc {l : List UInt8} (hl : l.length ≤ 1000000) (m : Nat) {k pr : Int} {d : DipC} {P : PL} {r : Bool} (hG : rcH l k pr d P r) :
    ∃ v1 h1, Runs Try.prog 24 [slB 0 l] [farB l] v1 h1 ∧ ∃ ks, Den h1 1 m ks v1 (.tup [.agg (cmF k pr d (.sl (some (m, 0)) P.length 0 false)), .bool r]) [.cells (itP P) 19 .own none] ∧ KsOk ks := by
  have no : ∀ {v1 : AV}, (∃ h', Runs Try.prog 24 [slB 0 l] [farB l] v1 h') → v1 = .tup [.agg (cmF 0 0 dZ (.sl none 0 0 true)), .bool false] → ¬ rcD l → (∀ k pr d P, ¬ GoodC l k pr d P) → ∃ v1 h1, Runs Try.prog 24 [slB 0 l] [farB l] v1 h1 ∧ ∃ ks, Den h1 1 m ks v1 (.tup [.agg (cmF k pr d (.sl (some (m, 0)) P.length 0 false)), .bool r]) [.cells (itP P) 19 .own none] ∧ KsOk ks := by
    rintro v1 ⟨h', hr⟩ rfl hD hn
    rcases hG with ⟨h, _⟩ | ⟨_, rfl, ⟨h, _⟩ | ⟨_, rfl, rfl, rfl, rfl⟩⟩
    · exact absurd h (hn _ _ _ _)
    · exact absurd h hD
    · exact ⟨_, h', hr, _, denCm rfl (.nil m true 19), ksOk1 _⟩
  have r0 := byt_range l 0
  have r1 := byt_range l 1
  have v0 : intV (bys l)[0]? = byt l 0 := by simp
  have v1 : intV (bys l)[1]? = byt l 1 := by simp
  have w0 : IntKind.i64.wrap (byt l 0) = byt l 0 := wrapI64 (by omega)
  have c0' : 0 < l.length → isIntV IntKind.u8 (bys l)[0]? = true := fun h => by simpa using h
  by_cases hX : 2 ≤ l.length ∧ 1 ≤ byt l 0 ∧ byt l 0 ≤ 5
  case neg =>
    refine no (Runs.valT0 (tRcOk (.bool true)) (F := 100) (n := 4) (pr := [(27, .bool true)]) ((nfRcX l _).trans ?_)) rfl (fun h => hX ⟨h.1, by have := h.2.1; omega, by have := h.2.1; omega⟩) (fun k pr d P h => hX ?_)
    · by_cases a1 : l.length < 2
      · exact if_pos (by simp; omega)
      refine (if_neg (dn (p := (l.length : Int) < 2) (by omega))).trans ?_
      refine (if_pos (by simp; omega)).trans ?_
      refine (if_pos (c0' (by omega))).trans ?_
      by_cases a2 : byt l 0 < 1
      · exact if_pos (by rw [v0]; exact decide_eq_true a2)
      refine (if_neg (by rw [v0]; exact dn a2)).trans ?_
      refine (if_pos (by simp; omega)).trans ?_
      refine (if_pos (c0' (by omega))).trans ?_
      exact if_pos (by rw [v0]; exact decide_eq_true (by omega))
    · obtain ⟨g1, g2, _⟩ := goodC_parse h
      have := h.1.1
      exact ⟨g1, by have := this.1; omega, by have := this.2.1; omega⟩
  obtain ⟨x1, x2, x3⟩ := hX
  have c0 : isIntV IntKind.u8 (bys l)[0]? = true := c0' (by omega)
  have c1 : isIntV IntKind.u8 (bys l)[1]? = true := by simp; omega
  have fr : ∀ {h : AHeap} {v : AV}, h[0]? = some (farB l) → rdVL l 2 = v → Says eRd [.sl (some (0, 0)) l.length 0 false, .int .i64 2] h v [] := fun {h v} hk hv => sayRd (i := 2) (bOk_row hk rfl rfl) (by show l.length ≤ _; omega) (by omega) hv
  by_cases hf : frOk (l.drop 2)
  case neg =>
    have hv : rdVL l 2 = .tup [.agg (adF false (fun _ => 0) ++ [.int .u16 0]), .int .i64 0, .bool false] := by unfold rdVL; rw [if_neg hf]; rfl
    refine no (Runs.valT0 (tRcOk _) (F := 100) (n := 4) (pr := [(27, .bool false), (36, .bool true)]) ((nfRcV l false (fun _ => 0) 0 0 false _).trans ?_)) rfl (fun h => hf h.2.2) (fun k pr d P h => hf (goodC_parse h).2.2.2.1)
    · skip
      refine (if_neg (dn (p := (l.length : Int) < 2) (by omega))).trans ?_
      refine (if_pos (by simp; omega)).trans ?_
      refine (if_pos c0).trans ?_
      refine (if_neg (by rw [v0]; exact dn (by omega))).trans ?_
      refine (if_pos (by simp; omega)).trans ?_
      refine (if_pos c0).trans ?_
      refine (if_pos (by rw [v0]; simp; omega)).trans ?_
      refine (if_pos (cdec_true.2 (fr rfl hv))).trans ?_
      exact if_pos rfl
  have hv : ∃ w x po, rdVL l 2 = .tup [.agg (adF w x ++ [.int .u16 po]), .int .i64 ((2 + frN (l.drop 2) : Nat) : Int), .bool true] ∧ dOf (l.drop 2) = dF w x po := by
    refine ⟨decide (byt (l.drop 2) 0 = 6), fxD (l.drop 2), word (l.drop 2) (frN (l.drop 2) - 2), ?_, rfl⟩
    unfold rdVL; rw [if_pos hf, frA_F]
  obtain ⟨w, x, po, hv, hd⟩ := hv
  have hn2 := hf.2.2
  rw [List.length_drop] at hn2
  have f0 := hf.2.1
  by_cases k2 : byt l 0 = 2
  · have hr : ∃ h', Runs Try.prog 24 [slB 0 l] [farB l] (.tup [.agg (cmF (IntKind.i64.wrap (intV (bys l)[0]?)) (intV (bys l)[1]?) (dF w x po) (.sl none 0 0 true)), .bool (((2 + frN (l.drop 2) : Nat) : Int) == (l.length : Int))]) h' := by
      refine Runs.valT0 (tRcOk _) (F := 100) (n := 4) (pr := [(27, .bool false), (36, .bool false), (53, .bool true)]) ((nfRcD l w x po ((2 + frN (l.drop 2) : Nat) : Int) true _).trans ?_)
      refine (if_neg (dn (p := (l.length : Int) < 2) (by omega))).trans ?_
      refine (if_pos (by simp; omega)).trans ?_
      refine (if_pos c0).trans ?_
      refine (if_neg (by rw [v0]; exact dn (by omega))).trans ?_
      refine (if_pos (by simp; omega)).trans ?_
      refine (if_pos c0).trans ?_
      refine (if_pos (by rw [v0]; simp; omega)).trans ?_
      refine (if_pos (cdec_true.2 (fr rfl hv))).trans ?_
      refine (if_pos rfl).trans ?_
      refine (if_pos (by simp; omega)).trans ?_
      refine (if_pos c0).trans ?_
      refine (if_pos (by simp; omega)).trans ?_
      refine (if_pos c1).trans ?_
      exact if_pos (by rw [v0, w0, k2]; rfl)
    rw [v0, v1, w0] at hr
    obtain ⟨h', hr⟩ := hr
    by_cases hn : 2 + frN (l.drop 2) = l.length
    · have hg := goodC_of2 x1 k2 hf hn
      rw [hd] at hg
      rw [hn, beq_self_eq_true] at hr
      rcases hG with ⟨h, rfl⟩ | ⟨h, _⟩
      · obtain ⟨u1, u2, u3, u4⟩ := goodC_uniq h hg
        rw [u1, u2, u3, u4]
        exact ⟨_, h', hr, _, denCm rfl (.nil m true 19), ksOk1 _⟩
      · exact absurd hg (h _ _ _ _)
    · have hn' : (((2 + frN (l.drop 2) : Nat) : Int) == (l.length : Int)) = false := by simp; omega
      have hng : ∀ k pr d P, ¬ GoodC l k pr d P := fun k pr d P h => by
        obtain ⟨g1, g2, g3, g4, g5, g6, _⟩ := goodC_parse h
        exact hn (g6 (by omega)).1
      rw [hn'] at hr
      rcases hG with ⟨h, rfl⟩ | ⟨_, rfl, ⟨_, rfl, rfl, rfl, rfl⟩ | ⟨h, _⟩⟩
      · exact absurd h (hng _ _ _ _)
      · rw [hd]
        exact ⟨_, h', hr, _, denCm rfl (.nil m true 19), ksOk1 _⟩
      · exact absurd ⟨x1, k2, hf⟩ h
  have hD : ¬ rcD l := fun h => k2 h.2.1
  have k2' : (intV (some (AV.int IntKind.i64 (IntKind.i64.wrap (intV (bys l)[0]?)))) == 2) = false := by rw [v0, w0]; simpa using k2
  by_cases hO : 2 + frN (l.drop 2) < l.length
  case neg =>
    refine no (Runs.valT0 (tRcOk _) (F := 100) (n := 4) (pr := [(27, .bool false), (36, .bool false), (53, .bool false), (62, .bool true)]) ((nfRcO l w x po ((2 + frN (l.drop 2) : Nat) : Int) true _).trans ?_)) rfl hD (fun k pr d P h => hO ?_)
    · skip
      refine (if_neg (dn (p := (l.length : Int) < 2) (by omega))).trans ?_
      refine (if_pos (by simp; omega)).trans ?_
      refine (if_pos c0).trans ?_
      refine (if_neg (by rw [v0]; exact dn (by omega))).trans ?_
      refine (if_pos (by simp; omega)).trans ?_
      refine (if_pos c0).trans ?_
      refine (if_pos (by rw [v0]; simp; omega)).trans ?_
      refine (if_pos (cdec_true.2 (fr rfl hv))).trans ?_
      refine (if_pos rfl).trans ?_
      refine (if_pos (by simp; omega)).trans ?_
      refine (if_pos c0).trans ?_
      refine (if_pos (by simp; omega)).trans ?_
      refine (if_pos c1).trans ?_
      refine (if_pos k2').trans ?_
      exact if_pos (decide_eq_true (show ((2 + frN (l.drop 2) : Nat) : Int) ≥ (l.length : Int) by omega))
    · obtain ⟨g1, g2, g3, g4, g5, g6, g7, _⟩ := goodC_parse h
      exact (g7 (by omega)).1
  have rn := byt_range l (2 + frN (l.drop 2))
  obtain ⟨n, hn⟩ : ∃ n : Nat, byt l (2 + frN (l.drop 2)) = n := ⟨(byt l (2 + frN (l.drop 2))).toNat, by omega⟩
  have hn256 : n < 256 := by omega
  have lp : loopsOf (bodyOf Try.prog 24) = [RCL] := by kernel_rfl
  have en : IntKind.i64.wrap (intV (bys l)[0 + ((2 + frN (l.drop 2) : Nat) : Int).toNat * 1]?) = (n : Int) := by
    have e : 0 + ((2 + frN (l.drop 2) : Nat) : Int).toNat * 1 = 2 + frN (l.drop 2) := by omega
    rw [e, bys_get, intV_byte, hn]; exact wrapI64 (by omega)
  have ea : IntKind.i64.wrap (((2 + frN (l.drop 2) : Nat) : Int) + 1) = ((2 + frN (l.drop 2) + 1 : Nat) : Int) := by rw [wrapI64 (by omega)]; omega
  have cn : isIntV IntKind.u8 (bys l)[0 + ((2 + frN (l.drop 2) : Nat) : Int).toNat * 1]? = true := by
    have e : 0 + ((2 + frN (l.drop 2) : Nat) : Int).toNat * 1 = 2 + frN (l.drop 2) := by omega
    rw [e, bys_get, isIntV_byte]; simpa using hO
  have pre : Pre 4 [.sl (some (0, 0)) l.length 0 false, .ptr (some (1, 0)), .bool false, .int .i64 (IntKind.i64.wrap (((2 + frN (l.drop 2) : Nat) : Int) + 1)), .ptr (some (3, 0)), .int .i64 (IntKind.i64.wrap (intV (bys l)[0 + ((2 + frN (l.drop 2) : Nat) : Int).toNat * 1]?)), .int .i64 0] [farB l, .cells zCm 21 .own none, .cells (adF w x ++ [.int .u16 po]) 18 .own none, .cells (cmA (IntKind.i64.wrap (intV (bys l)[0]?)) (intV (bys l)[1]?) w x (intV (some (.int .u16 po))) (.sl none 0 0 true)) 21 .own none] (vRc l (2 + frN (l.drop 2) + 1 : Nat) n 0) (hRc l (byt l 0) (byt l 1) w x po [] 0) := by
    rw [v0, v1, w0, ea, en]
    exact preRc rfl
  by_cases hN : nM l (2 + frN (l.drop 2) + 1) < n
  · have key : True → ∃ vs2 h2, Pre 4 [.sl (some (0, 0)) l.length 0 false, .ptr (some (1, 0)), .bool false, .int .i64 (IntKind.i64.wrap (((2 + frN (l.drop 2) : Nat) : Int) + 1)), .ptr (some (3, 0)), .int .i64 (IntKind.i64.wrap (intV (bys l)[0 + ((2 + frN (l.drop 2) : Nat) : Int).toNat * 1]?)), .int .i64 0] [farB l, .cells zCm 21 .own none, .cells (adF w x ++ [.int .u16 po]) 18 .own none, .cells (cmA (IntKind.i64.wrap (intV (bys l)[0]?)) (intV (bys l)[1]?) w x (intV (some (.int .u16 po))) (.sl none 0 0 true)) 21 .own none] vs2 h2 ∧ ∃ t, GReach (roundG Try.prog (deepT Try.prog (tRl l) 100 4) (lsT noT) RCL mRc) 4 t vs2 h2 .ret _ _ := fun _ => ⟨_, _, pre, loopRcB hl (by omega) hn256 hN⟩
    refine no (Runs.valT (tRcOk _) (F := 100) (n := 4) (pr := [(27, .bool false), (36, .bool false), (53, .bool false), (62, .bool false)]) (only (k := 14) lp (fixP_T (tRlOk l) (F := 100) (n := 4) (LS := noT) (noLoops (by kernel_rfl)) key)) ((nfRcB l w x po ((2 + frN (l.drop 2) : Nat) : Int) true True _ _ (byt l 0) (byt l 1) _ _ _ _ _ _).trans ?_)) rfl hD (fun k pr d P h => ?_)
    · skip
      refine (if_neg (dn (p := (l.length : Int) < 2) (by omega))).trans ?_
      refine (if_pos (by simp; omega)).trans ?_
      refine (if_pos c0).trans ?_
      refine (if_neg (by rw [v0]; exact dn (by omega))).trans ?_
      refine (if_pos (by simp; omega)).trans ?_
      refine (if_pos c0).trans ?_
      refine (if_pos (by rw [v0]; simp; omega)).trans ?_
      refine (if_pos (cdec_true.2 (fr rfl hv))).trans ?_
      refine (if_pos rfl).trans ?_
      refine (if_pos (by simp; omega)).trans ?_
      refine (if_pos c0).trans ?_
      refine (if_pos (by simp; omega)).trans ?_
      refine (if_pos c1).trans ?_
      refine (if_pos k2').trans ?_
      refine (if_pos (by simp; omega)).trans ?_
      refine (if_pos (by omega)).trans ?_
      refine (if_pos cn).trans ?_
      exact if_pos (cdec_true.2 ⟨trivial, rfl, rfl⟩)
    · obtain ⟨g1, g2, g3, g4, g5, g6, g7, _⟩ := goodC_parse h
      obtain ⟨w1, w2, w3, w4⟩ := goodC_walk h
      have := (g7 (by omega)).2
      rw [hn] at this
      omega
  have hg : ∀ i, i < n → gdM l (2 + frN (l.drop 2) + 1) i := fun i hi => nM_good (by omega)
  have key : True → ∃ vs2 h2, Pre 4 [.sl (some (0, 0)) l.length 0 false, .ptr (some (1, 0)), .bool false, .int .i64 (IntKind.i64.wrap (((2 + frN (l.drop 2) : Nat) : Int) + 1)), .ptr (some (3, 0)), .int .i64 (IntKind.i64.wrap (intV (bys l)[0 + ((2 + frN (l.drop 2) : Nat) : Int).toNat * 1]?)), .int .i64 0] [farB l, .cells zCm 21 .own none, .cells (adF w x ++ [.int .u16 po]) 18 .own none, .cells (cmA (IntKind.i64.wrap (intV (bys l)[0]?)) (intV (bys l)[1]?) w x (intV (some (.int .u16 po))) (.sl none 0 0 true)) 21 .own none] vs2 h2 ∧ ∃ t, GReach (roundG Try.prog (deepT Try.prog (tRl l) 100 4) (lsT noT) RCL mRc) 4 t vs2 h2 (.exit 0) _ _ := fun _ => ⟨_, _, pre, loopRc hl hn256 hg⟩
  have hPl := pM_len l (2 + frN (l.drop 2) + 1) n
  have h18 : ∀ {Q : PL} (h : 0 < Q.length), (itP Q)[18]? = some (.int .i64 (Q[0]'h).2) := fun {Q} h => by
    have := itP_n (P := Q) (i := 0) h
    simpa using this
  have ofN : atM l (2 + frN (l.drop 2) + 1) n = l.length → (byt l 0 ≠ 1 → n = 1) → (byt l 0 = 4 → ∀ x ∈ pM l (2 + frN (l.drop 2) + 1) n, x.2 = 0) → GoodC l (byt l 0) (byt l 1) (dOf (l.drop 2)) (pM l (2 + frN (l.drop 2) + 1) n) := fun h1 h2 h3 => goodC_ofN x1 ⟨x2, x3⟩ k2 hf hO hn hg h1 h2 h3
  have toN : ∀ k pr d P, GoodC l k pr d P → atM l (2 + frN (l.drop 2) + 1) n = l.length ∧ (byt l 0 ≠ 1 → n = 1) ∧ (byt l 0 = 4 → ∀ x ∈ pM l (2 + frN (l.drop 2) + 1) n, x.2 = 0) := by
    intro k pr d P h
    obtain ⟨g1, g2, g3, g4, g5, g6, g7, _⟩ := goodC_parse h
    obtain ⟨w1, w2, w3, w4⟩ := goodC_walk h
    have e := (g7 (by omega)).2
    rw [hn] at e
    have e' : n = P.length := by omega
    subst e'
    obtain ⟨⟨m1, m2, m3, m4, m5, m6⟩, mb⟩ := h.1
    refine ⟨w4 (by omega), fun hh => m5 (by omega), fun hh x hx => ?_⟩
    rw [w3] at hx
    rw [List.any_eq_false] at mb
    have hb : badM k x = false := by simpa using mb x hx
    exact (badM_no hb).2.2.2 (by omega)
  clear pre
  generalize atM l (2 + frN (l.drop 2) + 1) n = A at *
  generalize hQ : pM l (2 + frN (l.drop 2) + 1) n = Q at *
  by_cases hc : A = l.length ∧ (byt l 0 ≠ 1 → n = 1) ∧ (byt l 0 = 4 → ∀ x ∈ Q, x.2 = 0)
  case neg =>
    refine no (Runs.valT (tRcOk _) (F := 100) (n := 4) (pr := [(27, .bool false), (36, .bool false), (53, .bool false), (62, .bool false), (131, .bool true)]) (only (k := 14) lp (fixP_T (tRlOk l) (F := 100) (n := 4) (LS := noT) (noLoops (by kernel_rfl)) key)) ((nfRcF l w x po ((2 + frN (l.drop 2) : Nat) : Int) true True _ _ (byt l 0) (byt l 1) (itP Q) n A n n _).trans ?_)) rfl hD (fun k pr d P h => hc (toN k pr d P h))
    refine (if_neg (dn (p := (l.length : Int) < 2) (by omega))).trans ?_
    refine (if_pos (by simp; omega)).trans ?_
    refine (if_pos c0).trans ?_
    refine (if_neg (by rw [v0]; exact dn (by omega))).trans ?_
    refine (if_pos (by simp; omega)).trans ?_
    refine (if_pos c0).trans ?_
    refine (if_pos (by rw [v0]; simp; omega)).trans ?_
    refine (if_pos (cdec_true.2 (fr rfl hv))).trans ?_
    refine (if_pos rfl).trans ?_
    refine (if_pos (by simp; omega)).trans ?_
    refine (if_pos c0).trans ?_
    refine (if_pos (by simp; omega)).trans ?_
    refine (if_pos c1).trans ?_
    refine (if_pos k2').trans ?_
    refine (if_pos (by simp; omega)).trans ?_
    refine (if_pos (by omega)).trans ?_
    refine (if_pos cn).trans ?_
    refine (if_pos (cdec_true.2 ⟨trivial, rfl, rfl⟩)).trans ?_
    by_cases d1 : A = l.length
    case neg => exact if_pos (by simp; omega)
    refine (if_neg (by simp; omega)).trans ?_
    by_cases d2 : byt l 0 = 1
    · exact absurd ⟨d1, fun h => absurd d2 h, fun h => by omega⟩ hc
    refine (if_pos (by simpa using d2)).trans ?_
    by_cases d3 : n = 1
    case neg => exact if_pos (by simp; omega)
    refine (if_neg (by simp; omega)).trans ?_
    have d4 : byt l 0 = 4 := by
      refine Decidable.byContradiction fun h => hc ⟨d1, fun _ => d3, fun g => absurd g h⟩
    refine (if_pos (by simpa using d4)).trans ?_
    refine (if_pos (by simp; omega)).trans ?_
    have hne : (Q[0]'(by omega)).2 ≠ 0 := fun h => hc ⟨d1, fun _ => d3, fun _ x hx => by
      obtain ⟨i, hi, rfl⟩ := List.getElem_of_mem hx
      have : i = 0 := by omega
      subst this; exact h⟩
    refine (if_pos (by rw [h18 (by omega)]; rfl)).trans ?_
    exact if_pos (by rw [h18 (by omega)]; simpa using hne)
  obtain ⟨d1, d2, d3⟩ := hc
  have hgd := ofN d1 d2 d3
  rw [hd] at hgd
  rcases hG with ⟨h, rfl⟩ | ⟨h, _⟩
  case inr => exact absurd hgd (h _ _ _ _)
  obtain ⟨u1, u2, u3, u4⟩ := goodC_uniq h hgd
  rw [u1, u2, u3, u4]
  refine ⟨.tup [.agg (cmF (byt l 0) (byt l 1) (dF w x po) (.sl (some (4, 0)) n 0 false)), .bool true], hRcG3 l w x po ((2 + frN (l.drop 2) : Nat) : Int) true True [] [] (byt l 0) (byt l 1) (itP Q) n A n n, Runs.ofT (tRcOk _) (F := 100) (n := 4) (pr := [(27, .bool false), (36, .bool false), (53, .bool false), (62, .bool false), (131, .bool false)]) (only (k := 14) lp (fixP_T (tRlOk l) (F := 100) (n := 4) (LS := noT) (noLoops (by kernel_rfl)) key)) ((nfRcG l w x po ((2 + frN (l.drop 2) : Nat) : Int) true True _ _ (byt l 0) (byt l 1) (itP Q) n A n n _).trans ?_), [some 4], ?_, ksOk1 _⟩
  · skip
    refine (if_neg (dn (p := (l.length : Int) < 2) (by omega))).trans ?_
    refine (if_pos (by simp; omega)).trans ?_
    refine (if_pos c0).trans ?_
    refine (if_neg (by rw [v0]; exact dn (by omega))).trans ?_
    refine (if_pos (by simp; omega)).trans ?_
    refine (if_pos c0).trans ?_
    refine (if_pos (by rw [v0]; simp; omega)).trans ?_
    refine (if_pos (cdec_true.2 (fr rfl hv))).trans ?_
    refine (if_pos rfl).trans ?_
    refine (if_pos (by simp; omega)).trans ?_
    refine (if_pos c0).trans ?_
    refine (if_pos (by simp; omega)).trans ?_
    refine (if_pos c1).trans ?_
    refine (if_pos k2').trans ?_
    refine (if_pos (by simp; omega)).trans ?_
    refine (if_pos (by omega)).trans ?_
    refine (if_pos cn).trans ?_
    refine (if_pos (cdec_true.2 ⟨trivial, rfl, rfl⟩)).trans ?_
    refine (if_neg (by simp; omega)).trans ?_
    by_cases k1 : byt l 0 = 1
    · refine (if_neg (by simpa using k1)).trans ?_
      exact if_neg (by rw [intV_some, k1]; decide)
    refine (if_pos (by simpa using k1)).trans ?_
    have n1 := d2 k1
    refine (if_neg (by simp; omega)).trans ?_
    by_cases k4 : byt l 0 = 4
    · refine (if_pos (by simpa using k4)).trans ?_
      refine (if_pos (by simp; omega)).trans ?_
      have hz := d3 k4 _ (List.getElem_mem (l := Q) (n := 0) (by omega))
      refine (if_pos (by rw [h18 (by omega)]; rfl)).trans ?_
      exact if_pos (by rw [h18 (by omega)]; simpa using hz)
    · exact if_neg (by simpa using k4)
  · refine denCm rfl ?_
    rw [hPl]
    exact denRowN (by omega) rfl (by omega) (by rw [itP_length]; omega) (itP_frees _)
inductive RcR : List AV → AHeap → AV → AHeap → Prop
  | mk (l : List UInt8) (h : AHeap) (a : AV) (g : bOk h a = true ∧ bOf h a = l) (hl : l.length ≤ 1000000) (k pr : Int) (d : DipC) (P : PL) (r : Bool) (hG : rcH l k pr d P r) (j : Nat) (hj : h.length = j) : RcR [a] h (.tup [.agg (cmF k pr d (.sl (some (j, 0)) P.length 0 false)), .bool r]) [.cells (itP P) 19 .own none]
theorem sRc (L : List (Nat × AV × AHeap)) : SoundE Try.prog 24 (entF (eRel RcR L)) := by
  refine relR_sound (fun args h v new hR => ?_) L
  cases hR with
  | mk l _ a g hl k pr d P r hG j hj =>
  subst hj
  obtain ⟨ga, rfl⟩ := g
  obtain ⟨v1, h1, h2, ks, h3, h4⟩ := runRc hl h.length hG
  exact ⟨[slB 0 (bOf h a)], [farB (bOf h a)], .cons _ _ _ _ _ _ _ (bOk_canon ga 0) (.nil _), v1, h1, h2, ks, h3, h4⟩


end Go.Proofs.Ytjlepcfeeicdfaa.L
