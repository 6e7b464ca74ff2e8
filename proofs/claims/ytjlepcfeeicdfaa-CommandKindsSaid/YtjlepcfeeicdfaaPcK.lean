/- command.place, command.from: contracts. -/
import Derived.Test.YtjlepcfeeicdfaaPcN
set_option autoImplicit false
set_option maxRecDepth 100000
set_option linter.unusedVariables false
set_option linter.unusedSimpArgs false
namespace Go.Proofs.Ytjlepcfeeicdfaa.L
open Go Go.Abs

def plcL (cs : List AV) (po : Int) : List UInt8 := (if adrV6 cs = true then 6 else 4) :: (adrBytes cs ++ bigR po 2)
theorem lit4 {A : List UInt8} (h : A.length = 4) : ∃ y : Nat → UInt8, A = [y 0, y 1, y 2, y 3] := by
  obtain ⟨a, b, c, d, rfl⟩ := four_of h
  exact ⟨fun i => [a, b, c, d].getD i 0, rfl⟩
theorem lit16 {A : List UInt8} (h : A.length = 16) : ∃ y : Nat → UInt8, A = [y 0, y 1, y 2, y 3, y 4, y 5, y 6, y 7, y 8, y 9, y 10, y 11, y 12, y 13, y 14, y 15] := by
  obtain ⟨a, b, c, d, e, f, g, i, j, k, m, n, o, p, q, r, rfl⟩ := sixteen_of h
  exact ⟨fun t => [a, b, c, d, e, f, g, i, j, k, m, n, o, p, q, r].getD t 0, rfl⟩
theorem adrBytes_len {cs : List AV} (h : adrWf cs = true) : (adrBytes cs).length = if adrV6 cs = true then 16 else 4 := by
  obtain ⟨v, X, rfl, hX⟩ := adrWf_B h
  cases v <;> simp [adrBytes, adrV6, hX]
theorem plcL_len {cs : List AV} (po : Int) (h : adrWf cs = true) : (plcL cs po).length = if adrV6 cs = true then 19 else 7 := by
  unfold plcL
  rw [List.length_cons, List.length_append, adrBytes_len h]
  have : (bigR po 2).length = 2 := by simp
  rw [this]
  split <;> rfl
theorem runPc {cs : List AV} {po : Int} (hw : adrWf cs = true) (hp : 0 ≤ po ∧ po < 65536) : ∃ h', Runs Try.prog 27 [.agg cs, .int .u16 po] [] (.sl (some (5, 0)) (plcL cs po).length 0 false) h' ∧ h'[5]? = some (ownB (plcL cs po)) := by
  obtain ⟨w, x, rfl⟩ := adrWf_fn hw
  have hl := adrBytes_len hw
  cases w
  · obtain ⟨y, hy⟩ := lit4 (A := adrBytes (adF false x)) hl
    have hZ : [4] ++ [y 0, y 1, y 2, y 3] ++ bigR po 2 = plcL (adF false x) po := by unfold plcL; rw [hy]; rfl
    generalize plcL (adF false x) po = Z at *
    refine ⟨hPcF4 x po y Z, Runs.ofT0 (tPcOk [y 0, y 1, y 2, y 3] Z) (F := 100) (n := 4) (pr := []) ?_, rfl⟩
    refine (nfPcF x po y Z _).trans ?_
    refine (if_pos (cdec_true.2 (sayBytes hw hy rfl))).trans ?_
    exact if_pos (cdec_true.2 (sayApp16 (A := [4] ++ [y 0, y 1, y 2, y 3]) (bOk_row rfl rfl rfl) (by simp) hp hZ rfl))
  · obtain ⟨y, hy⟩ := lit16 (A := adrBytes (adF true x)) hl
    have hZ : [6] ++ [y 0, y 1, y 2, y 3, y 4, y 5, y 6, y 7, y 8, y 9, y 10, y 11, y 12, y 13, y 14, y 15] ++ bigR po 2 = plcL (adF true x) po := by unfold plcL; rw [hy]; rfl
    generalize plcL (adF true x) po = Z at *
    refine ⟨hPcT4 x po y Z, Runs.ofT0 (tPcOk [y 0, y 1, y 2, y 3, y 4, y 5, y 6, y 7, y 8, y 9, y 10, y 11, y 12, y 13, y 14, y 15] Z) (F := 100) (n := 4) (pr := []) ?_, rfl⟩
    refine (nfPcT x po y Z _).trans ?_
    refine (if_pos (cdec_true.2 (sayBytes hw hy rfl))).trans ?_
    exact if_pos (cdec_true.2 (sayApp16 (A := [6] ++ [y 0, y 1, y 2, y 3, y 4, y 5, y 6, y 7, y 8, y 9, y 10, y 11, y 12, y 13, y 14, y 15]) (bOk_row rfl rfl rfl) (by simp) hp hZ rfl))
theorem adr_free {cs : List AV} (h : adrWf cs = true) : AV.frees cs = true := by
  obtain ⟨v, X, rfl, hX⟩ := adrWf_B h
  show AV.frees (bys X) = true
  simp
inductive PcR : List AV → AHeap → AV → AHeap → Prop
  | mk (cs : List AV) (po : Int) (Z : List UInt8) (h : AHeap) (k : Nat) (hw : adrWf cs = true) (hp : 0 ≤ po ∧ po < 65536) (hZ : plcL cs po = Z) (hk : h.length = k) : PcR [.agg cs, .int .u16 po] h (slB k Z) [ownB Z]
theorem sPc (L : List (Nat × AV × AHeap)) : SoundE Try.prog 27 (entF (eRel PcR L)) := by
  refine relR_sound (fun args h v new hR => ?_) L
  cases hR with
  | mk cs po Z _ k hw hp hZ hk =>
  subst hZ hk
  obtain ⟨h', hr, h5⟩ := runPc hw hp
  have hf : AV.free (.agg cs) = true := adr_free hw
  refine ⟨[.agg cs, .int .u16 po], [], .cons _ _ _ _ _ _ _ (.flat _ _ hf) (.cons _ _ _ _ _ _ _ (.flat _ _ rfl) (.nil _)), _, _, hr, [some 5], ?_, ksOk1 _⟩
  have := denRow (m := h.length) (n := (plcL cs po).length) (k := 5) (n0 := 0) (h1 := h') (by omega) h5 (by simp) (by simp : AV.frees (bys (plcL cs po)) = true)
  simpa [slB] using this

def frN (l : List UInt8) : Nat := if byt l 0 = 6 then 19 else if byt l 0 = 4 then 7 else 0
def frOk (l : List UInt8) : Prop := 0 < l.length ∧ frN l ≠ 0 ∧ frN l ≤ l.length
instance (l : List UInt8) : Decidable (frOk l) := by unfold frOk; infer_instance
end Go.Proofs.Ytjlepcfeeicdfaa.L
