/- command.place, command.from: contracts. -/
import Derived.Test.YtjlepcfeeicdfaaPcN
set_option autoImplicit false
set_option maxRecDepth 100000
set_option linter.unusedVariables false
set_option linter.unusedSimpArgs false
namespace Go.Proofs.Ytjlepcfeeicdfaa.L
open Go Go.Abs

def plcL (cs : List AV) (po : Int) : List UInt8 := (if adrV6 cs = true then 6 else 4) :: (adrBytes cs ++ bigR po 2)
theorem lit4 {A : List UInt8} (h : A.length = 4) : ∃ y : Nat → UInt8, A = [y 0, y 1, y 2, y 3] := by
  obtain ⟨a, b, c, d, rfl⟩ := four_of h
  exact ⟨fun i => [a, b, c, d].getD i 0, rfl⟩
theorem lit16 {A : List UInt8} (h : A.length = 16) : ∃ y : Nat → UInt8, A = [y 0, y 1, y 2, y 3, y 4, y 5, y 6, y 7, y 8, y 9, y 10, y 11, y 12, y 13, y 14, y 15] := by
  obtain ⟨a, b, c, d, e, f, g, i, j, k, m, n, o, p, q, r, rfl⟩ := sixteen_of h
  exact ⟨fun t => [a, b, c, d, e, f, g, i, j, k, m, n, o, p, q, r].getD t 0, rfl⟩
theorem adrBytes_len {cs : List AV} (h : adrWf cs = true) : (adrBytes cs).length = if adrV6 cs = true then 16 else 4 := by
  obtain ⟨v, X, rfl, hX⟩ := adrWf_B h
  cases v <;> simp [adrBytes, adrV6, hX]
theorem plcL_len {cs : List AV} (po : Int) (h : adrWf cs = true) : (plcL cs po).length = if adrV6 cs = true then 19 else 7 := by
  unfold plcL
  rw [List.length_cons, List.length_append, adrBytes_len h]
  have : (bigR po 2).length = 2 := by simp
  rw [this]
  split <;> rfl
theorem runPc {cs : List AV} {po : Int} (hw : adrWf cs = true) (hp : 0 ≤ po ∧ po < 65536) : ∃ h', Runs Try.prog 27 [.agg cs, .int .u16 po] [] (.sl (some (5, 0)) (plcL cs po).length 0 false) h' ∧ h'[5]? = some (ownB (plcL cs po)) := by
  obtain ⟨w, x, rfl⟩ := adrWf_fn hw
  have hl := adrBytes_len hw
  cases w
  · obtain ⟨y, hy⟩ := lit4 (A := adrBytes (adF false x)) hl
    have hZ : [4] ++ [y 0, y 1, y 2, y 3] ++ bigR po 2 = plcL (adF false x) po := by unfold plcL; rw [hy]; rfl
    generalize plcL (adF false x) po = Z at *
    refine ⟨hPcF4 x po y Z, Runs.ofT0 (tPcOk [y 0, y 1, y 2, y 3] Z) (F := 100) (n := 4) (pr := []) ?_, rfl⟩
    refine (nfPcF x po y Z _).trans ?_
    refine (if_pos (cdec_true.2 (sayBytes hw hy rfl))).trans ?_
    exact if_pos (cdec_true.2 (sayApp16 (A := [4] ++ [y 0, y 1, y 2, y 3]) (bOk_row rfl rfl rfl) (by simp) hp hZ rfl))
  · obtain ⟨y, hy⟩ := lit16 (A := adrBytes (adF true x)) hl
    have hZ : [6] ++ [y 0, y 1, y 2, y 3, y 4, y 5, y 6, y 7, y 8, y 9, y 10, y 11, y 12, y 13, y 14, y 15] ++ bigR po 2 = plcL (adF true x) po := by unfold plcL; rw [hy]; rfl
    generalize plcL (adF true x) po = Z at *
    refine ⟨hPcT4 x po y Z, Runs.ofT0 (tPcOk [y 0, y 1, y 2, y 3, y 4, y 5, y 6, y 7, y 8, y 9, y 10, y 11, y 12, y 13, y 14, y 15] Z) (F := 100) (n := 4) (pr := []) ?_, rfl⟩
    refine (nfPcT x po y Z _).trans ?_
    refine (if_pos (cdec_true.2 (sayBytes hw hy rfl))).trans ?_
    exact if_pos (cdec_true.2 (sayApp16 (A := [6] ++ [y 0, y 1, y 2, y 3, y 4, y 5, y 6, y 7, y 8, y 9, y 10, y 11, y 12, y 13, y 14, y 15]) (bOk_row rfl rfl rfl) (by simp) hp hZ rfl))
theorem adr_free {cs : List AV} (h : adrWf cs = true) : AV.frees cs = true := by
  obtain ⟨v, X, rfl, hX⟩ := adrWf_B h
  show AV.frees (bys X) = true
  simp
inductive PcR : List AV → AHeap → AV → AHeap → Prop
  | mk (cs : List AV) (po : Int) (Z : List UInt8) (h : AHeap) (k : Nat) (hw : adrWf cs = true) (hp : 0 ≤ po ∧ po < 65536) (hZ : plcL cs po = Z) (hk : h.length = k) : PcR [.agg cs, .int .u16 po] h (slB k Z) [ownB Z]
theorem sPc (L : List (Nat × AV × AHeap)) : SoundE Try.prog 27 (entF (eRel PcR L)) := by
  refine relR_sound (fun args h v new hR => ?_) L
  cases hR with
  | mk cs po Z _ k hw hp hZ hk =>
  subst hZ hk
  obtain ⟨h', hr, h5⟩ := runPc hw hp
  have hf : AV.free (.agg cs) = true := adr_free hw
  refine ⟨[.agg cs, .int .u16 po], [], .cons _ _ _ _ _ _ _ (.flat _ _ hf) (.cons _ _ _ _ _ _ _ (.flat _ _ rfl) (.nil _)), _, _, hr, [some 5], ?_, ksOk1 _⟩
  have := denRow (m := h.length) (n := (plcL cs po).length) (k := 5) (n0 := 0) (h1 := h') (by omega) h5 (by simp) (by simp : AV.frees (bys (plcL cs po)) = true)
  simpa [slB] using this

def frN (l : List UInt8) : Nat := if byt l 0 = 6 then 19 else if byt l 0 = 4 then 7 else 0
def frOk (l : List UInt8) : Prop := 0 < l.length ∧ frN l ≠ 0 ∧ frN l ≤ l.length
instance (l : List UInt8) : Decidable (frOk l) := by unfold frOk; infer_instance
def frA (l : List UInt8) : List AV := if byt l 0 = 6 then adr16 l 1 else adr4 l 1
def fromV (l : List UInt8) : AV := if frOk l then .tup [.agg (frA l), .int .u16 (word l (frN l - 2)), .int .i64 (frN l)] else .tup [.agg adZ, .int .u16 0, .int .i64 0]
theorem adr16_cut' (l : List UInt8) (p : Nat) : adr16 ((l.drop p).take 16) 0 = adr16 l p := by
  simp [adr16, byt_part]
theorem adr4_cut' (l : List UInt8) (p : Nat) : adr4 ((l.drop p).take 4) 0 = adr4 l p := by
  simp [adr4, byt_part]
theorem adr16_F (l : List UInt8) (p : Nat) : adr16 l p = adF true fun i => byt l (p + i) := rfl
theorem adr4_F (l : List UInt8) (p : Nat) : adr4 l p = adF false fun i => if i < 4 then byt l (p + i) else 0 := rfl
theorem frA_wf (l : List UInt8) : adrWf (frA l) = true := by
  unfold frA
  split
  · have h : ∀ i, 0 ≤ byt l i ∧ byt l i < 256 := byt_range l
    simp [adr16, adrV, adrWf, isByteR, h]
  · have h : ∀ i, 0 ≤ byt l i ∧ byt l i < 256 := byt_range l
    simp [adr4, adrV, adrWf, isByteR, h]
theorem sayFrom16 {h : AHeap} {a : AV} {l : List UInt8} {c : List AV} (g : bOk h a = true ∧ bOf h a = l) (hn : nOf a = 16) (hc : adr16 l 0 = c) : Says (eFrom 0 2) [a] h (.tup [.agg c, .int .i64 0]) [] := ⟨by
  unfold eFrom; simp only [hn, g.1, g.2, hc, List.append_nil]⟩
theorem sayFrom4 {h : AHeap} {a : AV} {l : List UInt8} {c : List AV} (g : bOk h a = true ∧ bOf h a = l) (hn : nOf a = 4) (hc : adr4 l 0 = c) : Says (eFrom 0 2) [a] h (.tup [.agg c, .int .i64 0]) [] := ⟨by
  unfold eFrom; simp only [hn, g.1, g.2, hc, List.append_nil]⟩
theorem numAt_word {l : List UInt8} {p : Nat} (h : p + 2 ≤ l.length) : numAt l p 2 = word l p := by
  unfold numAt word
  have e : (l.drop p).take 2 = [l[p], l[p + 1]] := by
    rw [List.drop_eq_getElem_cons (by omega), List.drop_eq_getElem_cons (by omega)]; rfl
  rw [e]
  have e1 : byt l p = l[p].toNat := by unfold byt; rw [List.getD_eq_getElem?_getD, List.getElem?_eq_getElem (by omega), Option.getD_some]
  have e2 : byt l (p + 1) = l[p + 1].toNat := by unfold byt; rw [List.getD_eq_getElem?_getD, List.getElem?_eq_getElem (by omega), Option.getD_some]
  rw [e1, e2]
  simp [beN]
theorem sayGet16 {h : AHeap} {a : AV} {l : List UInt8} {p : Nat} {x : Int} (g : bOk h a = true ∧ bOf h a = l) (hn : nOf a ≤ 1000000000000) (hp : p + 2 ≤ l.length) (hx : word l p = x) : Says eGet16 [a, .int .i64 (p : Int)] h (.tup [.int .u16 x, .bool true]) [] := ⟨by
  unfold eGet16
  have hd : decide ((nOf a : Int) < 9223372036854775000) = true := decide_eq_true (by omega)
  have hc : 0 ≤ (p : Int) ∧ (p : Int) + (2 : Nat) ≤ l.length := ⟨by omega, by omega⟩
  simp only [g.1, g.2, hd, Bool.and_self, List.append_nil, getR]
  rw [if_pos hc, decide_eq_true hc, Int.toNat_natCast, numAt_word hp, hx]⟩

theorem runFro (l : List UInt8) (hl : l.length ≤ 1000000000000) : ∃ h', Runs Try.prog 22 [slB 0 l] [farB l] (fromV l) h' := by
  by_cases h0 : 0 < l.length
  case neg =>
    have e : fromV l = .tup [.agg adZ, .int .u16 0, .int .i64 0] := by unfold fromV; rw [if_neg (fun h => h0 h.1)]
    rw [e]
    refine Runs.valT0 (tFrOk [] 0) (F := 100) (n := 4) (pr := [(14, .bool false), (33, .bool true)]) ?_
    refine (nfFrFT l _).trans ?_
    refine (if_neg (by rw [decide_eq_true_eq]; omega)).trans ?_
    exact if_pos (by simp; omega)
  have c0 : Int.ofNat 0 ≤ Int.ofNat 0 ∧ (0 : Int) < (l.length : Int) := ⟨Int.le_refl _, by omega⟩
  have c1 : isIntV IntKind.u8 (bys l)[0]? = true := by simpa using h0
  have c2 : intV (bys l)[0]? = byt l 0 := by simp
  by_cases h6 : byt l 0 = 6
  · have en : frN l = 19 := by unfold frN; rw [if_pos h6]
    by_cases hn : 19 ≤ l.length
    · have e : fromV l = .tup [.agg (frA l), .int .u16 (word l 17), .int .i64 19] := by unfold fromV; rw [if_pos ⟨h0, by omega, by omega⟩, en]; rfl
      have ea : frA l = adF true fun i => byt l (1 + i) := by unfold frA; rw [if_pos h6, adr16_F]
      rw [e, ea]
      refine Runs.valT0 (tFrOk (adF true fun i => byt l (1 + i)) (word l 17)) (F := 100) (n := 4) (pr := [(14, .bool true), (33, .bool false)]) ?_
      refine (nfFrTF l _ _ _).trans ?_
      simp only [c2, h6]
      refine (if_pos (by simp; omega)).trans ?_
      refine (if_pos c0).trans ?_
      refine (if_pos c1).trans ?_
      refine (if_pos rfl).trans ?_
      refine (if_neg (by simp; omega)).trans ?_
      refine (if_pos c0).trans ?_
      refine (if_pos c1).trans ?_
      refine (if_pos (by decide)).trans ?_
      refine (if_pos c0).trans ?_
      refine (if_pos c1).trans ?_
      refine (if_pos (by decide)).trans ?_
      refine (if_pos ⟨by decide, by simp [capOf]; omega⟩).trans ?_
      refine (if_pos (cdec_true.2 (sayFrom16 (l := (l.drop 1).take 16) (bOk_cut1 rfl rfl (by omega) rfl) rfl (adr16_cut' l 1)))).trans ?_
      refine (if_pos (cdec_true.2 (sayGet16 (l := l) (p := 17) (bOk_row rfl rfl rfl) hl (by omega) rfl))).trans ?_
      rfl
    · have e : fromV l = .tup [.agg adZ, .int .u16 0, .int .i64 0] := by unfold fromV; rw [if_neg (fun h => by have := h.2.2; omega)]
      rw [e]
      refine Runs.valT0 (tFrOk [] 0) (F := 100) (n := 4) (pr := [(14, .bool true), (33, .bool true)]) ?_
      refine (nfFrTT l _).trans ?_
      simp only [c2, h6]
      refine (if_pos (by simp; omega)).trans ?_
      refine (if_pos c0).trans ?_
      refine (if_pos c1).trans ?_
      refine (if_pos rfl).trans ?_
      exact if_pos (by simp; omega)
  · by_cases h4 : byt l 0 = 4
    · have en : frN l = 7 := by unfold frN; rw [if_neg h6, if_pos h4]
      by_cases hn : 7 ≤ l.length
      · have e : fromV l = .tup [.agg (frA l), .int .u16 (word l 5), .int .i64 7] := by unfold fromV; rw [if_pos ⟨h0, by omega, by omega⟩, en]; rfl
        have ea : frA l = adF false fun i => if i < 4 then byt l (1 + i) else 0 := by unfold frA; rw [if_neg h6, adr4_F]
        rw [e, ea]
        refine Runs.valT0 (tFrOk (adF false fun i => if i < 4 then byt l (1 + i) else 0) (word l 5)) (F := 100) (n := 4) (pr := [(14, .bool false), (33, .bool false)]) ?_
        refine (nfFrFF l _ _ _).trans ?_
        simp only [c2, h4]
        refine (if_pos (by simp; omega)).trans ?_
        refine (if_pos c0).trans ?_
        refine (if_pos c1).trans ?_
        refine (if_pos (by decide)).trans ?_
        refine (if_neg (by simp; omega)).trans ?_
        refine (if_pos c0).trans ?_
        refine (if_pos c1).trans ?_
        refine (if_neg (by decide)).trans ?_
        refine (if_pos ⟨by decide, by simp [capOf]; omega⟩).trans ?_
        refine (if_pos (cdec_true.2 (sayFrom4 (l := (l.drop 1).take 4) (bOk_cut1 rfl rfl (by omega) rfl) rfl (adr4_cut' l 1)))).trans ?_
        refine (if_pos (cdec_true.2 (sayGet16 (l := l) (p := 5) (bOk_row rfl rfl rfl) hl (by omega) rfl))).trans ?_
        rfl
      · have e : fromV l = .tup [.agg adZ, .int .u16 0, .int .i64 0] := by unfold fromV; rw [if_neg (fun h => by have := h.2.2; omega)]
        rw [e]
        refine Runs.valT0 (tFrOk [] 0) (F := 100) (n := 4) (pr := [(14, .bool false), (33, .bool true)]) ?_
        refine (nfFrFT l _).trans ?_
        simp only [c2, h4]
        refine (if_pos (by simp; omega)).trans ?_
        refine (if_pos c0).trans ?_
        refine (if_pos c1).trans ?_
        refine (if_pos (by decide)).trans ?_
        exact if_pos (by simp; omega)
    · have en : frN l = 0 := by unfold frN; rw [if_neg h6, if_neg h4]
      have e : fromV l = .tup [.agg adZ, .int .u16 0, .int .i64 0] := by unfold fromV; rw [if_neg (fun h => h.2.1 en)]
      rw [e]
      refine Runs.valT0 (tFrOk [] 0) (F := 100) (n := 4) (pr := [(14, .bool false), (33, .bool true)]) ?_
      refine (nfFrFT l _).trans ?_
      simp only [c2]
      refine (if_pos (by simp; omega)).trans ?_
      refine (if_pos c0).trans ?_
      refine (if_pos c1).trans ?_
      refine (if_pos (by simpa using h6)).trans ?_
      by_cases hn : l.length < 7
      · exact if_pos (by simp; omega)
      · refine (if_neg (by simp; omega)).trans ?_
        refine (if_pos c0).trans ?_
        refine (if_pos c1).trans ?_
        refine (if_pos (by simpa using h4)).trans ?_
        refine (if_pos c0).trans ?_
        refine (if_pos c1).trans ?_
        exact if_pos (by simpa using h6)
theorem fromV_free (l : List UInt8) : (fromV l).free = true := by
  unfold fromV
  split
  · show (AV.frees (frA l) && _) = true
    rw [adr_free (frA_wf l)]; rfl
  · rfl
def eFro : GEnt := fun args h => match args with
  | [b] => some (bOk h b && decide (nOf b ≤ 1000000000000), fromV (bOf h b), h)
  | _ => none
theorem sFro : SoundE Try.prog 22 (entF eFro) := by
  refine canonV_sound fun args h v h' hg => ?_
  unfold eFro at hg
  split at hg
  · rename_i b
    simp only [Option.some.injEq, Prod.mk.injEq, Bool.and_eq_true, decide_eq_true_eq] at hg
    obtain ⟨⟨hb, hn⟩, rfl, rfl⟩ := hg
    rw [← bOk_len hb] at hn
    exact ⟨rfl, fromV_free _, [slB 0 (bOf h b)], [farB (bOf h b)], .cons _ _ _ _ _ _ _ (bOk_canon hb 0) (.nil _), runFro _ hn⟩
  · simp at hg
theorem sayFro {h : AHeap} {a v : AV} {l : List UInt8} (g : bOk h a = true ∧ bOf h a = l) (hn : nOf a ≤ 1000000000000) (hv : fromV l = v) : Says eFro [a] h v [] := ⟨by
  show some (bOk h a && decide (nOf a ≤ 1000000000000), fromV (bOf h a), h) = _
  rw [g.1, g.2, hv, decide_eq_true hn]; simp⟩

end Go.Proofs.Ytjlepcfeeicdfaa.L
