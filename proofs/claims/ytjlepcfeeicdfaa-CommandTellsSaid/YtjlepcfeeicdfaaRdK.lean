/- The reference's dip, DipBytes: contracts. -/
import Derived.Test.YtjlepcfeeicdfaaRdN
set_option autoImplicit false
set_option maxRecDepth 100000
set_option linter.unusedVariables false
set_option linter.unusedSimpArgs false
namespace Go.Proofs.Ytjlepcfeeicdfaa.L
open Go Go.Abs

def rdVL (l : List UInt8) (i : Nat) : AV := if frOk (l.drop i) then .tup [.agg (frA (l.drop i) ++ [.int .u16 (word (l.drop i) (frN (l.drop i) - 2))]), .int .i64 ((i + frN (l.drop i) : Nat) : Int), .bool true] else .tup [.agg dipZ, .int .i64 0, .bool false]
theorem rdVL_free (l : List UInt8) (i : Nat) : (rdVL l i).free = true := by
  unfold rdVL; split
  · show (AV.frees (frA (l.drop i) ++ [.int .u16 (word (l.drop i) (frN (l.drop i) - 2))]) && _) = true
    rw [dip_free (frA_wf _)]; rfl
  · rfl
theorem word_drop (l : List UInt8) (i j : Nat) : word (l.drop i) j = word l (i + j) := by unfold word; rw [byt_drop, byt_drop]; rfl
theorem adN_frN (q : List UInt8) : (adN q = 0 ∧ frN q = 0) ∨ (adN q ≠ 0 ∧ frN q = adN q + 2) := by
  unfold adN frN
  by_cases h6 : byt q 0 = 6
  · right; rw [if_pos h6, if_pos h6]; exact ⟨by decide, rfl⟩
  · rw [if_neg h6, if_neg h6]
    by_cases h4 : byt q 0 = 4
    · right; rw [if_pos h4, if_pos h4]; exact ⟨by decide, rfl⟩
    · left; rw [if_neg h4, if_neg h4]; exact ⟨rfl, rfl⟩
theorem wrap16' {n : Int} (h : 0 ≤ n ∧ n < 65536) : IntKind.u16.wrap n = n := by
  unfold IntKind.wrap
  simp [IntKind.signed, IntKind.bits]
  omega
def eRd : GEnt := fun args h => match args with
  | [b, .int .i64 i] => some (bOk h b && decide (nOf b ≤ 1000000000000 ∧ 0 ≤ i ∧ i ≤ 1000000000000), rdVL (bOf h b) i.toNat, h)
  | _ => none
theorem runRd (l : List UInt8) (i : Nat) (hl : l.length ≤ 1000000000000) (hi : i ≤ 1000000000000) : ∃ h', Runs Try.prog 28 [slB 0 l, .int .i64 (i : Int)] [farB l] (rdVL l i) h' := by
  by_cases h1 : adOk (l.drop i)
  case neg =>
    have hn : ¬ frOk (l.drop i) := by
      rintro ⟨a, b, c⟩
      rcases adN_frN (l.drop i) with ⟨d, e⟩ | ⟨d, e⟩
      · exact b e
      · exact h1 ⟨a, d, by omega⟩
    have e : rdVL l i = .tup [.agg dipZ, .int .i64 0, .bool false] := by unfold rdVL; rw [if_neg hn]
    have ea : adVL l i = .tup [.agg (adF false fun _ => 0), .int .i64 0, .bool false] := by unfold adVL; rw [if_neg h1]; rfl
    rw [e]
    refine Runs.valT0 (tRdOk (.tup [.agg (adF false fun _ => 0), .int .i64 0, .bool false]) 0) (F := 100) (n := 4) (pr := []) ?_
    refine (nfRd l i false false _ 0 0 _).trans ?_
    refine (if_pos (cdec_true.2 (sayAd (bOk_row rfl rfl rfl) hl hi ea))).trans ?_
    exact if_pos rfl
  obtain ⟨w, x, hx⟩ := adrWf_fn (frA_wf (l.drop i))
  have ea : adVL l i = .tup [.agg (adF w x), .int .i64 ((i + adN (l.drop i) : Nat) : Int), .bool true] := by unfold adVL; rw [if_pos h1, hx]
  have hfa : adN (l.drop i) ≠ 0 ∧ frN (l.drop i) = adN (l.drop i) + 2 := (adN_frN (l.drop i)).resolve_left fun h => h1.2.1 h.1
  have hd : (l.drop i).length = l.length - i := by simp
  have hle := h1.2.2
  have hb : adN (l.drop i) ≤ 17 := by unfold adN; split; omega; split <;> omega
  have w1 : IntKind.i64.wrap (((i + adN (l.drop i) : Nat) : Int) + 2) = ((i + adN (l.drop i) : Nat) : Int) + 2 := wrapI64 (by omega)
  by_cases h2 : i + adN (l.drop i) + 2 ≤ l.length
  · have hf : frOk (l.drop i) := ⟨h1.1, by omega, by omega⟩
    have ew : word l (i + adN (l.drop i)) = word (l.drop i) (frN (l.drop i) - 2) := by rw [word_drop]; congr 1; omega
    have hw := word_range (l.drop i) (frN (l.drop i) - 2)
    have e : rdVL l i = .tup [.agg (adF w x ++ [.int .u16 (word (l.drop i) (frN (l.drop i) - 2))]), .int .i64 (((i + adN (l.drop i) : Nat) : Int) + 2), .bool true] := by
      unfold rdVL; rw [if_pos hf, hx, show ((i + frN (l.drop i) : Nat) : Int) = ((i + adN (l.drop i) : Nat) : Int) + 2 by omega]
    rw [e]
    refine Runs.valT0 (tRdOk (.tup [.agg (adF w x), .int .i64 ((i + adN (l.drop i) : Nat) : Int), .bool true]) (word (l.drop i) (frN (l.drop i) - 2))) (F := 100) (n := 4) (pr := []) ?_
    refine (nfRd l i w true x _ _ _).trans ?_
    rw [w1]
    refine (if_pos (cdec_true.2 (sayAd (bOk_row rfl rfl rfl) hl hi ea))).trans ?_
    refine (if_neg (by decide)).trans ?_
    refine (if_neg (by simp; omega)).trans ?_
    refine (if_pos (cdec_true.2 (sayBe16 (bOk_row rfl rfl rfl) (by show l.length ≤ _; omega) h2 ew))).trans ?_
    refine (if_pos (AV.beq_self _)).trans ?_
    rw [wrap16' hw]
    rfl
  · have hf : ¬ frOk (l.drop i) := fun h => by have := h.2.2; omega
    have e : rdVL l i = .tup [.agg dipZ, .int .i64 0, .bool false] := by unfold rdVL; rw [if_neg hf]
    rw [e]
    refine Runs.valT0 (tRdOk (.tup [.agg (adF w x), .int .i64 ((i + adN (l.drop i) : Nat) : Int), .bool true]) 0) (F := 100) (n := 4) (pr := []) ?_
    refine (nfRd l i w true x _ _ _).trans ?_
    rw [w1]
    refine (if_pos (cdec_true.2 (sayAd (bOk_row rfl rfl rfl) hl hi ea))).trans ?_
    refine (if_neg (by decide)).trans ?_
    exact if_pos (by simp; omega)
theorem sRd : SoundE Try.prog 28 (entF eRd) := by
  refine canonV_sound fun args h v h' hg => ?_
  unfold eRd at hg
  split at hg
  · rename_i b i
    simp only [Option.some.injEq, Prod.mk.injEq, Bool.and_eq_true, decide_eq_true_eq] at hg
    obtain ⟨⟨hb, hn, h0, hi⟩, rfl, rfl⟩ := hg
    rw [← bOk_len hb] at hn
    obtain ⟨j, rfl⟩ := Int.eq_ofNat_of_zero_le h0
    exact ⟨rfl, rdVL_free _ _, [slB 0 (bOf h b), .int .i64 (j : Int)], [farB (bOf h b)], .cons _ _ _ _ _ _ _ (bOk_canon hb 0) (.cons _ _ _ _ _ _ _ (.flat _ _ rfl) (.nil _)), runRd _ j hn (by omega)⟩
  · simp at hg
theorem sayRd {h : AHeap} {a v : AV} {l : List UInt8} {i : Nat} (g : bOk h a = true ∧ bOf h a = l) (hn : nOf a ≤ 1000000000000) (hi : i ≤ 1000000000000) (hv : rdVL l i = v) : Says eRd [a, .int .i64 (i : Int)] h v [] := ⟨by
  show some (bOk h a && decide (nOf a ≤ 1000000000000 ∧ (0 : Int) ≤ i ∧ (i : Int) ≤ 1000000000000), rdVL (bOf h a) (i : Int).toNat, h) = _
  rw [g.1, g.2, Int.toNat_natCast, hv, decide_eq_true ⟨hn, by omega, by omega⟩]; simp⟩

theorem po_bytes {po : Int} (h : 0 ≤ po ∧ po < 65536) : [b8 (IntKind.u8.wrap ((intV (some (AV.int IntKind.u16 po))).fdiv 256)), b8 (IntKind.u8.wrap (intV (some (AV.int IntKind.u16 po))))] = bys (bigR po 2) := by
  have e : bigR po 2 = [u8i (po.fdiv 256), u8i (po.fdiv 1)] := rfl
  rw [e]
  have e1 : po.fdiv 1 = po := by simp
  show [b8 (IntKind.u8.wrap (po.fdiv 256)), b8 (IntKind.u8.wrap po)] = [AV.int .u8 ((u8i (po.fdiv 256)).toNat : Int), AV.int .u8 ((u8i (po.fdiv 1)).toNat : Int)]
  rw [e1, wrapU8_byte, wrapU8_byte]
theorem runRb {cs : List AV} {po : Int} (hw : adrWf cs = true) (hp : 0 ≤ po ∧ po < 65536) : ∃ h', Runs Try.prog 17 [.agg (cs ++ [.int .u16 po])] [] (.sl (some (5, 0)) (plcL cs po).length 0 false) h' ∧ ∃ par, h'[5]? = some (.cells (bys (plcL cs po)) 1 .own par) := by
  obtain ⟨w, x, rfl⟩ := adrWf_fn hw
  have hl := adrBytes_len hw
  have hln := plcL_len po hw
  have hb := po_bytes hp
  cases w
  · obtain ⟨y, hy⟩ := lit4 (A := adrBytes (adF false x)) hl
    have hZ : bys (plcL (adF false x) po) = bys [4, y 0, y 1, y 2, y 3] ++ [b8 (IntKind.u8.wrap ((intV (some (AV.int IntKind.u16 po))).fdiv 256)), b8 (IntKind.u8.wrap (intV (some (AV.int IntKind.u16 po))))] := by
      rw [hb, bys_append]; unfold plcL; rw [hy]; rfl
    rw [hZ, hln]
    refine ⟨hRbF2 x po y, Runs.ofT0 (tRbOk [y 0, y 1, y 2, y 3]) (F := 100) (n := 4) (pr := []) ?_, _, rfl⟩
    refine (nfRbF x po y _).trans ?_
    exact if_pos (cdec_true.2 (sayBytes hw hy rfl))
  · obtain ⟨y, hy⟩ := lit16 (A := adrBytes (adF true x)) hl
    have hZ : bys (plcL (adF true x) po) = bys [6, y 0, y 1, y 2, y 3, y 4, y 5, y 6, y 7, y 8, y 9, y 10, y 11, y 12, y 13, y 14, y 15] ++ [b8 (IntKind.u8.wrap ((intV (some (AV.int IntKind.u16 po))).fdiv 256)), b8 (IntKind.u8.wrap (intV (some (AV.int IntKind.u16 po))))] := by
      rw [hb, bys_append]; unfold plcL; rw [hy]; rfl
    rw [hZ, hln]
    refine ⟨hRbT2 x po y, Runs.ofT0 (tRbOk [y 0, y 1, y 2, y 3, y 4, y 5, y 6, y 7, y 8, y 9, y 10, y 11, y 12, y 13, y 14, y 15]) (F := 100) (n := 4) (pr := []) ?_, _, rfl⟩
    refine (nfRbT x po y _).trans ?_
    exact if_pos (cdec_true.2 (sayBytes hw hy rfl))
inductive RbR : List AV → AHeap → AV → AHeap → Prop
  | mk (cs : List AV) (po : Int) (Z : List UInt8) (h : AHeap) (k : Nat) (hw : adrWf cs = true) (hp : 0 ≤ po ∧ po < 65536) (hZ : plcL cs po = Z) (hk : h.length = k) : RbR [.agg (cs ++ [.int .u16 po])] h (slB k Z) [ownB Z]
theorem sRb (L : List (Nat × AV × AHeap)) : SoundE Try.prog 17 (entF (eRel RbR L)) := by
  refine relR_sound (fun args h v new hR => ?_) L
  cases hR with
  | mk cs po Z _ k hw hp hZ hk =>
  subst hZ hk
  obtain ⟨h', hr, par, h5⟩ := runRb hw hp
  have hf : AV.free (.agg (cs ++ [.int .u16 po])) = true := dip_free hw
  exact ⟨[.agg (cs ++ [.int .u16 po])], [], .cons _ _ _ _ _ _ _ (.flat _ _ hf) (.nil _), _, _, hr, [some 5], denRow (n := (plcL cs po).length) (by simp) h5 (by simp) (by simp), ksOk1 _⟩

end Go.Proofs.Ytjlepcfeeicdfaa.L
