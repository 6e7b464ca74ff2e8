/- The reference's addr: contract. -/
import Derived.Test.YtjlepcfeeicdfaaAdN
set_option autoImplicit false
set_option maxRecDepth 100000
set_option linter.unusedVariables false
set_option linter.unusedSimpArgs false
namespace Go.Proofs.Ytjlepcfeeicdfaa.L
open Go Go.Abs

def adN (q : List UInt8) : Nat := if byt q 0 = 6 then 17 else if byt q 0 = 4 then 5 else 0
def adOk (q : List UInt8) : Prop := 0 < q.length ∧ adN q ≠ 0 ∧ adN q ≤ q.length
instance (q : List UInt8) : Decidable (adOk q) := by unfold adOk; infer_instance
def adVL (l : List UInt8) (i : Nat) : AV := if adOk (l.drop i) then .tup [.agg (frA (l.drop i)), .int .i64 ((i + adN (l.drop i) : Nat) : Int), .bool true] else .tup [.agg adZ, .int .i64 0, .bool false]
theorem adVL_free (l : List UInt8) (i : Nat) : (adVL l i).free = true := by
  unfold adVL; split
  · show (AV.frees (frA (l.drop i)) && _) = true
    rw [adr_free (frA_wf _)]; rfl
  · rfl
def eAd : GEnt := fun args h => match args with
  | [b, .int .i64 i] => some (bOk h b && decide (nOf b ≤ 1000000000000 ∧ 0 ≤ i ∧ i ≤ 1000000000000), adVL (bOf h b) i.toNat, h)
  | _ => none
theorem runAd (l : List UInt8) (i : Nat) (hl : l.length ≤ 1000000000000) (hi : i ≤ 1000000000000) : ∃ h', Runs Try.prog 40 [slB 0 l, .int .i64 (i : Int)] [farB l] (adVL l i) h' := by
  by_cases hil : i < l.length
  case neg =>
    have e : adVL l i = .tup [.agg adZ, .int .i64 0, .bool false] := by unfold adVL; rw [if_neg (fun h => by have := h.1; simp at this; omega)]
    rw [e]
    refine Runs.valT0 (tAdOk []) (F := 100) (n := 4) (pr := [(27, .bool true)]) ?_
    refine (nfAdB l i _).trans ?_
    exact if_pos (by simp; omega)
  have c0 : (0 : Int) ≤ (i : Int) ∧ (i : Int) < (l.length : Int) := ⟨by omega, by omega⟩
  have e0 : 0 + (i : Int).toNat * 1 = i := by omega
  have c1 : isIntV IntKind.u8 (bys l)[i]? = true := by simpa using hil
  have c2 : intV (bys l)[i]? = byt (l.drop i) 0 := by rw [byt_drop]; simp
  have w1 : IntKind.i64.wrap ((i : Int) + 1) = (i : Int) + 1 := wrapI64 (by omega)
  have hq0 : 0 < (l.drop i).length := by simp; omega
  have hql : (l.drop i).length = l.length - i := by simp
  by_cases h6 : byt (l.drop i) 0 = 6
  · have en : adN (l.drop i) = 17 := by unfold adN; rw [if_pos h6]
    have w2 : IntKind.i64.wrap ((i : Int) + 1 + 16) = (i : Int) + 17 := by rw [wrapI64 (by omega)]; omega
    by_cases hn : i + 17 ≤ l.length
    · have e : adVL l i = .tup [.agg (adF true fun j => byt l (i + 1 + j)), .int .i64 ((i : Int) + 17), .bool true] := by
        unfold adVL; rw [if_pos ⟨hq0, by omega, by omega⟩, en]
        have ea : frA (l.drop i) = adF true fun j => byt l (i + 1 + j) := by
          unfold frA; rw [if_pos h6, adr16_F]; unfold adF; simp only [byt_drop, Nat.add_assoc]
        rw [ea]; rfl
      rw [e]
      refine Runs.valT0 (tAdOk (adF true fun j => byt l (i + 1 + j))) (F := 100) (n := 4) (pr := [(27, .bool false), (33, .bool true), (40, .bool false)]) ?_
      refine (nfAdYT l i _ _).trans ?_
      simp only [e0, c2, h6, w1, w2]
      refine (if_neg (by simp; omega)).trans ?_
      refine (if_pos c0).trans ?_
      refine (if_pos c1).trans ?_
      refine (if_pos (by decide)).trans ?_
      refine (if_pos c0).trans ?_
      refine (if_pos c1).trans ?_
      refine (if_pos (by decide)).trans ?_
      refine (if_pos c0).trans ?_
      refine (if_pos c1).trans ?_
      refine (if_pos rfl).trans ?_
      refine (if_pos (by simp; omega)).trans ?_
      refine (if_pos ⟨by omega, by simp [capOf]; omega⟩).trans ?_
      refine (if_pos ⟨by omega, by omega⟩).trans ?_
      refine (if_pos (cdec_true.2 (sayFrom16 (l := (l.drop (i + 1)).take 16) (bOk_cut1 rfl rfl (by omega) (by congr 1 <;> first | omega | (congr 1; omega))) (by simp only [nOf_sl]; omega) (adr16_cut' l (i + 1))))).trans ?_
      rfl
    · have e : adVL l i = .tup [.agg adZ, .int .i64 0, .bool false] := by unfold adVL; rw [if_neg (fun h => by have := h.2.2; omega)]
      rw [e]
      refine Runs.valT0 (tAdOk []) (F := 100) (n := 4) (pr := [(27, .bool false), (33, .bool true), (40, .bool true)]) ?_
      refine (nfAdST l i _).trans ?_
      simp only [e0, c2, h6, w1, w2]
      refine (if_neg (by simp; omega)).trans ?_
      refine (if_pos c0).trans ?_
      refine (if_pos c1).trans ?_
      refine (if_pos (by decide)).trans ?_
      refine (if_pos c0).trans ?_
      refine (if_pos c1).trans ?_
      refine (if_pos (by decide)).trans ?_
      refine (if_pos c0).trans ?_
      refine (if_pos c1).trans ?_
      refine (if_pos rfl).trans ?_
      exact if_pos (by simp; omega)
  · by_cases h4 : byt (l.drop i) 0 = 4
    · have en : adN (l.drop i) = 5 := by unfold adN; rw [if_neg h6, if_pos h4]
      have w2 : IntKind.i64.wrap ((i : Int) + 1 + 4) = (i : Int) + 5 := by rw [wrapI64 (by omega)]; omega
      by_cases hn : i + 5 ≤ l.length
      · have e : adVL l i = .tup [.agg (adF false fun j => if j < 4 then byt l (i + 1 + j) else 0), .int .i64 ((i : Int) + 5), .bool true] := by
          unfold adVL; rw [if_pos ⟨hq0, by omega, by omega⟩, en]
          have ea : frA (l.drop i) = adF false fun j => if j < 4 then byt l (i + 1 + j) else 0 := by
            unfold frA; rw [if_neg h6, adr4_F]; unfold adF; simp only [byt_drop, Nat.add_assoc]
          rw [ea]; rfl
        rw [e]
        refine Runs.valT0 (tAdOk (adF false fun j => if j < 4 then byt l (i + 1 + j) else 0)) (F := 100) (n := 4) (pr := [(27, .bool false), (33, .bool false), (40, .bool false)]) ?_
        refine (nfAdYF l i _ _).trans ?_
        simp only [e0, c2, h4, w1, w2]
        refine (if_neg (by simp; omega)).trans ?_
        refine (if_pos c0).trans ?_
        refine (if_pos c1).trans ?_
        refine (if_neg (by decide)).trans ?_
        refine (if_pos c0).trans ?_
        refine (if_pos c1).trans ?_
        refine (if_pos (by decide)).trans ?_
        refine (if_pos (by simp; omega)).trans ?_
        refine (if_pos ⟨by omega, by simp [capOf]; omega⟩).trans ?_
        refine (if_pos ⟨by omega, by omega⟩).trans ?_
        refine (if_pos (cdec_true.2 (sayFrom4 (l := (l.drop (i + 1)).take 4) (bOk_cut1 rfl rfl (by omega) (by congr 1 <;> first | omega | (congr 1; omega))) (by simp only [nOf_sl]; omega) (adr4_cut' l (i + 1))))).trans ?_
        rfl
      · have e : adVL l i = .tup [.agg adZ, .int .i64 0, .bool false] := by unfold adVL; rw [if_neg (fun h => by have := h.2.2; omega)]
        rw [e]
        refine Runs.valT0 (tAdOk []) (F := 100) (n := 4) (pr := [(27, .bool false), (33, .bool false), (40, .bool true)]) ?_
        refine (nfAdSF l i _).trans ?_
        simp only [e0, c2, h4, w1, w2]
        refine (if_neg (by simp; omega)).trans ?_
        refine (if_pos c0).trans ?_
        refine (if_pos c1).trans ?_
        refine (if_neg (by decide)).trans ?_
        refine (if_pos c0).trans ?_
        refine (if_pos c1).trans ?_
        refine (if_pos (by decide)).trans ?_
        exact if_pos (by simp; omega)
    · have en : adN (l.drop i) = 0 := by unfold adN; rw [if_neg h6, if_neg h4]
      have e : adVL l i = .tup [.agg adZ, .int .i64 0, .bool false] := by unfold adVL; rw [if_neg (fun h => h.2.1 en)]
      rw [e]
      refine Runs.valT0 (tAdOk []) (F := 100) (n := 4) (pr := [(27, .bool true)]) ?_
      refine (nfAdB l i _).trans ?_
      simp only [e0, c2]
      refine (if_neg (by simp; omega)).trans ?_
      refine (if_pos c0).trans ?_
      refine (if_pos c1).trans ?_
      refine (if_pos (by simpa using h4)).trans ?_
      refine (if_pos c0).trans ?_
      refine (if_pos c1).trans ?_
      exact if_pos (by simpa using h6)
theorem sAd : SoundE Try.prog 40 (entF eAd) := by
  refine canonV_sound fun args h v h' hg => ?_
  unfold eAd at hg
  split at hg
  · rename_i b i
    simp only [Option.some.injEq, Prod.mk.injEq, Bool.and_eq_true, decide_eq_true_eq] at hg
    obtain ⟨⟨hb, hn, h0, hi⟩, rfl, rfl⟩ := hg
    rw [← bOk_len hb] at hn
    obtain ⟨j, rfl⟩ := Int.eq_ofNat_of_zero_le h0
    exact ⟨rfl, adVL_free _ _, [slB 0 (bOf h b), .int .i64 (j : Int)], [farB (bOf h b)], .cons _ _ _ _ _ _ _ (bOk_canon hb 0) (.cons _ _ _ _ _ _ _ (.flat _ _ rfl) (.nil _)), runAd _ j hn (by omega)⟩
  · simp at hg
theorem sayAd {h : AHeap} {a v : AV} {l : List UInt8} {i : Nat} (g : bOk h a = true ∧ bOf h a = l) (hn : nOf a ≤ 1000000000000) (hi : i ≤ 1000000000000) (hv : adVL l i = v) : Says eAd [a, .int .i64 (i : Int)] h v [] := ⟨by
  show some (bOk h a && decide (nOf a ≤ 1000000000000 ∧ (0 : Int) ≤ i ∧ (i : Int) ≤ 1000000000000), adVL (bOf h a) (i : Int).toNat, h) = _
  rw [g.1, g.2, Int.toNat_natCast, hv, decide_eq_true ⟨hn, by omega, by omega⟩]; simp⟩
theorem sayBe16 {h : AHeap} {a : AV} {l : List UInt8} {p : Nat} {x : Int} (g : bOk h a = true ∧ bOf h a = l) (hn : nOf a ≤ 70368744177664) (hp : p + 2 ≤ l.length) (hx : word l p = x) : Says eBe16 [a, .int .i64 (p : Int)] h (.int .i64 x) [] := ⟨by
  show some (bOk h a && decide (nOf a ≤ 70368744177664 ∧ (0 : Int) ≤ p ∧ (p : Int) + 2 ≤ (nOf a : Int)), (.int .i64 (word (bOf h a) (p : Int).toNat) : AV), h) = _
  have hl := bOk_len g.1
  rw [g.2] at hl
  rw [g.1, g.2, Int.toNat_natCast, hx, decide_eq_true ⟨hn, by omega, by omega⟩]; simp⟩

end Go.Proofs.Ytjlepcfeeicdfaa.L
