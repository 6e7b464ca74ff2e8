/- command.DipBytes, command.Dip: contracts. -/
import Derived.Test.YtjlepcfeeicdfaaDbN
set_option autoImplicit false
set_option maxRecDepth 100000
set_option linter.unusedVariables false
set_option linter.unusedSimpArgs false
namespace Go.Proofs.Ytjlepcfeeicdfaa.L
open Go Go.Abs

theorem dip_free {cs : List AV} {po : Int} (h : adrWf cs = true) : AV.frees (cs ++ [.int .u16 po]) = true := frees_append (adr_free h) rfl
def dbL (cs : List AV) (po : Int) : List UInt8 := if adrValid cs = true then plcL cs po else []
def dbE (cs : List AV) : Int := if adrValid cs = true then 0 else 2
inductive DbR : List AV → AHeap → AV → AHeap → Prop
  | mk (cs : List AV) (po e : Int) (Z : List UInt8) (h : AHeap) (k : Nat) (hw : adrWf cs = true) (hp : 0 ≤ po ∧ po < 65536) (hZ : dbL cs po = Z) (he : dbE cs = e) (hk : h.length = k) : DbR [.agg (cs ++ [.int .u16 po])] h (.tup [slB k Z, .int .i64 e]) [ownB Z]
theorem sDb (L : List (Nat × AV × AHeap)) : SoundE Try.prog 14 (entF (eRel DbR L)) := by
  refine relR_sound (fun args h v new hR => ?_) L
  cases hR with
  | mk cs po e Z _ k hw hp hZ he hk =>
  subst hk
  have hf : AV.free (.agg (cs ++ [.int .u16 po])) = true := dip_free hw
  have ca : Canons h 0 [.agg (cs ++ [.int .u16 po])] [.agg (cs ++ [.int .u16 po])] [] := .cons _ _ _ _ _ _ _ (.flat _ _ hf) (.nil _)
  obtain ⟨w, x, rfl⟩ := adrWf_fn hw
  by_cases hv : adrValid (adF w x) = true
  · have e1 : dbL (adF w x) po = plcL (adF w x) po := by unfold dbL; rw [if_pos hv]
    have e2 : dbE (adF w x) = 0 := by unfold dbE; rw [if_pos hv]
    rw [e1] at hZ
    rw [e2] at he
    subst hZ he
    refine ⟨_, _, ca, .tup [.sl (some (1, 0)) (plcL (adF w x) po).length 0 false, .int .i64 0], hDb2 w x po (plcL (adF w x) po), Runs.ofT0 (tDbOk (plcL (adF w x) po)) (F := 100) (n := 4) (pr := []) ?_, [some 1], denTupRow (n0 := 0) (by omega) rfl (by omega) (by simp) (by simp) rfl, ksOk1 _⟩
    refine (nfDb w x po _ _).trans ?_
    refine (if_pos (cdec_true.2 (isAdr_wf hw))).trans ?_
    refine (if_neg (by rw [opq_eq, hv]; decide)).trans ?_
    exact if_pos (cdec_true.2 (.mk _ _ _ _ _ hw hp rfl rfl))
  · have e1 : dbL (adF w x) po = [] := by unfold dbL; rw [if_neg hv]
    have e2 : dbE (adF w x) = 2 := by unfold dbE; rw [if_neg hv]
    rw [e1] at hZ
    rw [e2] at he
    subst hZ he
    refine ⟨_, _, ca, .tup [.sl none 0 0 true, .int .i64 2], hDb0 w x po [], Runs.ofT0 (tDbOk []) (F := 100) (n := 4) (pr := []) ?_, [none], denTupNil rfl, ksOk1 _⟩
    refine (nfDb w x po _ _).trans ?_
    refine (if_pos (cdec_true.2 (isAdr_wf hw))).trans ?_
    exact if_pos (by rw [opq_eq]; simpa using hv)

def dpOk (l : List UInt8) : Prop := frOk l ∧ frN l = l.length
instance (l : List UInt8) : Decidable (dpOk l) := by unfold dpOk; infer_instance
def dpC (l : List UInt8) : List AV := if dpOk l then frA l ++ [.int .u16 (word l (frN l - 2))] else dipZ
def dpE (l : List UInt8) : Int := if dpOk l then 0 else 2
theorem dpC_free (l : List UInt8) : AV.frees (dpC l) = true := by
  unfold dpC; split
  · exact dip_free (frA_wf l)
  · rfl
def eDp : GEnt := fun args h => match args with
  | [b] => some (bOk h b && decide (nOf b ≤ 1000000000000), .tup [.agg (dpC (bOf h b)), .int .i64 (dpE (bOf h b))], h)
  | _ => none
theorem runDp (l : List UInt8) (hl : l.length ≤ 1000000000000) : ∃ h', Runs Try.prog 12 [slB 0 l] [farB l] (.tup [.agg (dpC l), .int .i64 (dpE l)]) h' := by
  by_cases h1 : frOk l
  · obtain ⟨w, x, hx⟩ := adrWf_fn (frA_wf l)
    have ev : fromV l = .tup [.agg (adF w x), .int .u16 (word l (frN l - 2)), .int .i64 (frN l)] := by unfold fromV; rw [if_pos h1, hx]
    by_cases h2 : frN l = l.length
    · have e1 : dpC l = adF w x ++ [.int .u16 (word l (frN l - 2))] := by unfold dpC; rw [if_pos ⟨h1, h2⟩, hx]
      have e2 : dpE l = 0 := by unfold dpE; rw [if_pos ⟨h1, h2⟩]
      rw [e1, e2]
      refine Runs.valT0 (tDiOk (.tup [.agg (adF w x), .int .u16 (word l (frN l - 2)), .int .i64 (frN l)])) (F := 100) (n := 4) (pr := []) ?_
      refine (nfDi l w x _ _ _).trans ?_
      refine (if_pos (cdec_true.2 (sayFro (bOk_row rfl rfl rfl) hl ev))).trans ?_
      refine (if_neg (by have := h1.2.1; simp; omega)).trans ?_
      refine (if_neg (by rw [h2]; simp)).trans ?_
      rfl
    · have e1 : dpC l = dipZ := by unfold dpC; rw [if_neg (fun h => h2 h.2)]
      have e2 : dpE l = 2 := by unfold dpE; rw [if_neg (fun h => h2 h.2)]
      rw [e1, e2]
      refine Runs.valT0 (tDiOk (.tup [.agg (adF w x), .int .u16 (word l (frN l - 2)), .int .i64 (frN l)])) (F := 100) (n := 4) (pr := []) ?_
      refine (nfDi l w x _ _ _).trans ?_
      refine (if_pos (cdec_true.2 (sayFro (bOk_row rfl rfl rfl) hl ev))).trans ?_
      refine (if_neg (by have := h1.2.1; simp; omega)).trans ?_
      exact if_pos (by simp; omega)
  · have e1 : dpC l = dipZ := by unfold dpC; rw [if_neg (fun h => h1 h.1)]
    have e2 : dpE l = 2 := by unfold dpE; rw [if_neg (fun h => h1 h.1)]
    have ev : fromV l = .tup [.agg (adF false fun _ => 0), .int .u16 0, .int .i64 0] := by unfold fromV; rw [if_neg h1]; rfl
    rw [e1, e2]
    refine Runs.valT0 (tDiOk (.tup [.agg (adF false fun _ => 0), .int .u16 0, .int .i64 0])) (F := 100) (n := 4) (pr := []) ?_
    refine (nfDi l _ _ _ _ _).trans ?_
    refine (if_pos (cdec_true.2 (sayFro (bOk_row rfl rfl rfl) hl ev))).trans ?_
    exact if_pos rfl
theorem sDp : SoundE Try.prog 12 (entF eDp) := by
  refine canonV_sound fun args h v h' hg => ?_
  unfold eDp at hg
  split at hg
  · rename_i b
    simp only [Option.some.injEq, Prod.mk.injEq, Bool.and_eq_true, decide_eq_true_eq] at hg
    obtain ⟨⟨hb, hn⟩, rfl, rfl⟩ := hg
    rw [← bOk_len hb] at hn
    have hf : AV.free (.tup [.agg (dpC (bOf h b)), .int .i64 (dpE (bOf h b))]) = true := by
      show (AV.frees (dpC (bOf h b)) && _) = true
      rw [dpC_free]; rfl
    exact ⟨rfl, hf, [slB 0 (bOf h b)], [farB (bOf h b)], .cons _ _ _ _ _ _ _ (bOk_canon hb 0) (.nil _), runDp _ hn⟩
  · simp at hg
theorem sayDp {h : AHeap} {a v : AV} {l : List UInt8} (g : bOk h a = true ∧ bOf h a = l) (hn : nOf a ≤ 1000000000000) (hv : .tup [.agg (dpC l), .int .i64 (dpE l)] = v) : Says eDp [a] h v [] := ⟨by
  show some (bOk h a && decide (nOf a ≤ 1000000000000), (.tup [.agg (dpC (bOf h a)), .int .i64 (dpE (bOf h a))] : AV), h) = _
  rw [g.1, g.2, hv, decide_eq_true hn]; simp⟩

end Go.Proofs.Ytjlepcfeeicdfaa.L
