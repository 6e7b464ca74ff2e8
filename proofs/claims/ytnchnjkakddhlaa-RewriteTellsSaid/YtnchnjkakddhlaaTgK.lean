/- rewrite.To's contract, of any bytes. -/
import Derived.Test.YtnchnjkakddhlaaTgP
set_option autoImplicit false
set_option maxRecDepth 100000
set_option linter.unusedVariables false
set_option linter.unusedSimpArgs false
namespace Go.Proofs.Ytnchnjkakddhlaa.L
open Go Go.Abs

inductive TgR : List AV → AHeap → AV → AHeap → Prop
  | mk (l O : List UInt8) (cs : List AV) (pt : Int) (h : AHeap) (a : AV) (k : Nat) (ok : Bool) (g : bOk h a = true ∧ bOf h a = l) (hl : l.length ≤ 1000000000000) (wc : adrWf cs = true) (hpt : 0 ≤ pt ∧ pt < 65536) (hO : toL l cs pt = O) (hok : decide (toOk l cs) = ok) (hk : h.length = k) :
      TgR [a, .agg (cs ++ [.int .u16 pt])] h (.tup [slB k O, .bool ok]) [ownB O]
theorem tgNil {l : List UInt8} {cs : List AV} {pt : Int} (hO : toL l cs pt = []) (hok : decide (toOk l cs) = false) {v1 : AV} {h1 : AHeap} (hr : Runs Try.prog 8 [slB 0 l, .agg (cs ++ [.int .u16 pt])] [farB l] (.tup [.sl none 0 0 true, .bool false]) h1) :
    ∃ v1 h1, Runs Try.prog 8 [slB 0 l, .agg (cs ++ [.int .u16 pt])] [farB l] v1 h1 ∧ ∃ ks, ∀ K, Den h1 1 K ks v1 (.tup [slB K (toL l cs pt), .bool (decide (toOk l cs))]) [ownB (toL l cs pt)] ∧ KsOk ks := by
  rw [hO, hok]
  exact ⟨_, _, hr, [none] ++ [], fun K => ⟨.tup _ _ _ _ _ (.cons _ _ _ _ _ _ _ _ _ (.nil _ _ 1) (.cons _ [] [] _ _ _ _ _ _ (.flat _ _ rfl) (.nil _))), ksOk1 _⟩⟩
theorem toL_no {l : List UInt8} {cs : List AV} {pt : Int} (h : ¬ toOk l cs) : toL l cs pt = [] ∧ decide (toOk l cs) = false := ⟨by unfold toL; rw [if_neg h], decide_eq_false h⟩
theorem tgRun (l : List UInt8) (cs : List AV) (pt : Int) (hl : l.length ≤ 1000000000000) (wc : adrWf cs = true) (hpt : 0 ≤ pt ∧ pt < 65536) :
    ∃ v1 h1, Runs Try.prog 8 [slB 0 l, .agg (cs ++ [.int .u16 pt])] [farB l] v1 h1 ∧ ∃ ks, ∀ K, Den h1 1 K ks v1 (.tup [slB K (toL l cs pt), .bool (decide (toOk l cs))]) [ownB (toL l cs pt)] ∧ KsOk ks := by
  by_cases hr : readR l = 0
  case neg =>
    have hn : ¬ toOk l cs := fun h => hr h.1
    obtain ⟨h1, r⟩ := tgErr l (readR l) pt hl cs wc rfl hr
    exact tgNil (v1 := .any) (toL_no (pt := pt) hn).1 (toL_no (pt := pt) hn).2 r
  have hv := vRead_Y hr
  obtain ⟨g0, g1, g2, g3, g4⟩ := good_facts hr
  have hpos := rdG_pos hr
  by_cases hok : toOk l cs
  case neg =>
    have hb : adrV6 cs ≠ isV6 l ∨ adrValid cs = false := by
      by_cases h6 : adrV6 cs = isV6 l
      · right
        cases hx : adrValid cs with
        | false => rfl
        | true => exact absurd ⟨hr, h6, hx⟩ hok
      · exact .inl h6
    cases h6 : isV6 l
    · rw [h6] at hv hb
      obtain ⟨h1, r⟩ := tgBadF l _ _ _ _ _ _ _ pt g2.2 _ _ cs (rdSrc_wf l) (rdDst_wf l) wc hb hv
      exact tgNil (v1 := .any) (toL_no (pt := pt) hok).1 (toL_no (pt := pt) hok).2 r
    · rw [h6] at hv hb
      obtain ⟨h1, r⟩ := tgBadT l _ _ _ _ _ _ _ pt g2.2 _ _ cs (rdSrc_wf l) (rdDst_wf l) wc hb hv
      exact tgNil (v1 := .any) (toL_no (pt := pt) hok).1 (toL_no (pt := pt) hok).2 r
  obtain ⟨A, hA⟩ := Int.eq_ofNat_of_zero_le g0
  obtain ⟨S, hS⟩ := Int.eq_ofNat_of_zero_le (show 0 ≤ rdS l by omega)
  obtain ⟨E, hE⟩ := Int.eq_ofNat_of_zero_le (show 0 ≤ rdE l by omega)
  have hDl := toD_len hok wc
  have hSl := toS_len (pt := pt) hok
  have e : toL l cs pt = over (over l (netR l).1.toNat (toD l cs)) ((netR l).1 + rdS l).toNat (toS l cs pt) := by unfold toL; rw [if_pos hok]
  have eG : (l.drop (A + S)).take (A + E - (A + S)) = rdG l := by
    rw [← g3, hA, hS, hE]; congr 1; congr 1; omega
  have eD : toD l cs = if isV6 l = true then dest6 ((l.drop A).take (A + E - A)) cs else dest4 ((l.drop A).take (A + E - A)) cs := by
    unfold toD; rw [hA, hE, show ((A : Int) + (E : Int)).toNat = A + E by omega, show (A : Int).toNat = A by omega]
  have eS : toS l cs pt = portL (rdP l) ((l.drop (A + S)).take (A + E - (A + S))) (toPt l pt) (rdDst l) cs := by unfold toS; rw [eG]
  have ed : decide (toOk l cs) = true := decide_eq_true hok
  rw [e, ed, hA, hS, show ((A : Int) + (S : Int)).toNat = A + S by omega, show (A : Int).toNat = A by omega]
  rw [hA, hS, hE, show (A : Int) + (S : Int) = ((A + S : Nat) : Int) by omega, show (A : Int) + (E : Int) = ((A + E : Nat) : Int) by omega] at hv
  have h2 := hok.2.1
  have h3 := hok.2.2
  generalize toD l cs = D at *
  generalize toS l cs pt = T at *
  cases D with
  | nil => simp at hDl; omega
  | cons b D =>
  cases T with
  | nil => simp at hSl; omega
  | cons c T =>
  have hw2 := word_range (rdG l) 2
  by_cases hz : pt = 0
  · have ep : toPt l pt = word (rdG l) 2 := by unfold toPt; rw [if_pos hz]
    rw [ep] at eS
    cases h6 : isV6 l
    · rw [h6, if_neg (by simp)] at eD
      rw [h6] at hv h2
      exact tgRunFT l D T b c _ _ _ _ pt A (A + S) (A + E) (by omega) (by omega) _ _ cs (rdSrc_wf l) (rdDst_wf l) wc h2 h3 hv hz hw2 eD.symm (by omega) eS.symm (by omega)
    · rw [h6, if_pos rfl] at eD
      rw [h6] at hv h2
      exact tgRunTT l D T b c _ _ _ _ pt A (A + S) (A + E) (by omega) (by omega) _ _ cs (rdSrc_wf l) (rdDst_wf l) wc h2 h3 hv hz hw2 eD.symm (by omega) eS.symm (by omega)
  · have ep : toPt l pt = pt := by unfold toPt; rw [if_neg hz]
    rw [ep] at eS
    cases h6 : isV6 l
    · rw [h6, if_neg (by simp)] at eD
      rw [h6] at hv h2
      exact tgRunFF l D T b c _ _ _ _ pt A (A + S) (A + E) (by omega) (by omega) _ _ cs (rdSrc_wf l) (rdDst_wf l) wc h2 h3 hv hz hpt eD.symm (by omega) eS.symm (by omega)
    · rw [h6, if_pos rfl] at eD
      rw [h6] at hv h2
      exact tgRunTF l D T b c _ _ _ _ pt A (A + S) (A + E) (by omega) (by omega) _ _ cs (rdSrc_wf l) (rdDst_wf l) wc h2 h3 hv hz hpt eD.symm (by omega) eS.symm (by omega)
theorem sTg (L : List (Nat × AV × AHeap)) : SoundE Try.prog 8 (entF (eRel TgR L)) := by
  refine relR_sound (fun args h v new hR => ?_) L
  cases hR with
  | mk l O cs pt _ a k ok g hl wc hpt hO hok hk =>
  subst hk hO hok
  obtain ⟨gb, rfl⟩ := g
  have hf : AV.free (.agg (cs ++ [.int .u16 pt])) = true := by
    obtain ⟨v, X, rfl, hX⟩ := adrWf_B wc
    show AV.frees (AV.bool v :: bys X ++ [AV.int .u16 pt]) = true
    exact frees_append (l := AV.bool v :: bys X) (by show AV.frees (bys X) = true; simp) rfl
  obtain ⟨v1, h2, hr, ks, hd⟩ := tgRun (bOf h a) cs pt hl wc hpt
  exact ⟨[slB 0 (bOf h a), .agg (cs ++ [.int .u16 pt])], [farB (bOf h a)], .cons _ _ _ _ _ _ _ (bOk_canon gb 0) (.cons _ _ _ _ _ _ _ (.flat _ _ hf) (.nil _)), v1, h2, hr, ks, (hd _).1, (hd 0).2⟩

end Go.Proofs.Ytnchnjkakddhlaa.L
