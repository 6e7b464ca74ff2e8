/- The reference's To: its contract, of any bytes. -/
import Derived.Test.YtnchnjkakddhlaaRtoW
set_option autoImplicit false
set_option maxRecDepth 100000
set_option linter.unusedVariables false
set_option linter.unusedSimpArgs false
namespace Go.Proofs.Ytnchnjkakddhlaa.L
open Go Go.Abs

inductive RtR : List AV → AHeap → AV → AHeap → Prop
  | mk (l O : List UInt8) (cs : List AV) (pt : Int) (h : AHeap) (a : AV) (k : Nat) (ok : Bool) (g : bOk h a = true ∧ bOf h a = l) (hl : l.length ≤ 1000000000000) (wc : adrWf cs = true) (hpt : 0 ≤ pt ∧ pt < 65536) (hO : toL l cs pt = O) (hok : decide (toOk l cs) = ok) (hk : h.length = k) :
      RtR [a, .agg (cs ++ [.int .u16 pt])] h (.tup [slB k O, .bool ok]) [ownB O]
theorem rtNil {l : List UInt8} {cs : List AV} {pt : Int} (hO : toL l cs pt = []) (hok : decide (toOk l cs) = false) {h1 : AHeap} (hr : Runs Try.prog 9 [slB 0 l, .agg (cs ++ [.int .u16 pt])] [farB l] (.tup [.sl none 0 0 true, .bool false]) h1) :
    ∃ v1 h1, Runs Try.prog 9 [slB 0 l, .agg (cs ++ [.int .u16 pt])] [farB l] v1 h1 ∧ ∃ ks, ∀ K, Den h1 1 K ks v1 (.tup [slB K (toL l cs pt), .bool (decide (toOk l cs))]) [ownB (toL l cs pt)] ∧ KsOk ks := by
  rw [hO, hok]
  exact ⟨_, _, hr, [none] ++ [], fun K => ⟨.tup _ _ _ _ _ (.cons _ _ _ _ _ _ _ _ _ (.nil _ _ 1) (.cons _ [] [] _ _ _ _ _ _ (.flat _ _ rfl) (.nil _))), ksOk1 _⟩⟩
theorem rtRun (l : List UInt8) (cs : List AV) (pt : Int) (hl : l.length ≤ 1000000000000) (wc : adrWf cs = true) (hpt : 0 ≤ pt ∧ pt < 65536) :
    ∃ v1 h1, Runs Try.prog 9 [slB 0 l, .agg (cs ++ [.int .u16 pt])] [farB l] v1 h1 ∧ ∃ ks, ∀ K, Den h1 1 K ks v1 (.tup [slB K (toL l cs pt), .bool (decide (toOk l cs))]) [ownB (toL l cs pt)] ∧ KsOk ks := by
  by_cases hr : readR l = 0
  case neg =>
    have hn : ¬ toOk l cs := fun h => hr h.1
    obtain ⟨h1, r⟩ := rtoErr l (readR l) pt hl cs wc rfl hr
    exact rtNil (toL_no (pt := pt) hn).1 (toL_no (pt := pt) hn).2 r
  have hv := vRead_Y hr
  obtain ⟨g0, g1, g2, g3, g4⟩ := good_facts hr
  have hpos := rdG_pos hr
  by_cases hok : toOk l cs
  case neg =>
    have hb : adrV6 cs ≠ isV6 l ∨ adrValid cs = false := by
      by_cases h6 : adrV6 cs = isV6 l
      · right
        cases hx : adrValid cs with
        | false => rfl
        | true => exact absurd ⟨hr, h6, hx⟩ hok
      · exact .inl h6
    cases h6 : isV6 l
    · rw [h6] at hv hb
      obtain ⟨h1, r⟩ := rtoBadF l _ _ _ _ _ _ _ pt g2.2 _ _ cs (rdSrc_wf l) (rdDst_wf l) wc hb hv
      exact rtNil (toL_no (pt := pt) hok).1 (toL_no (pt := pt) hok).2 r
    · rw [h6] at hv hb
      obtain ⟨h1, r⟩ := rtoBadT l _ _ _ _ _ _ _ pt g2.2 _ _ cs (rdSrc_wf l) (rdDst_wf l) wc hb hv
      exact rtNil (toL_no (pt := pt) hok).1 (toL_no (pt := pt) hok).2 r
  obtain ⟨A, hA⟩ := Int.eq_ofNat_of_zero_le g0
  obtain ⟨S, hS⟩ := Int.eq_ofNat_of_zero_le (show 0 ≤ rdS l by omega)
  obtain ⟨E, hE⟩ := Int.eq_ofNat_of_zero_le (show 0 ≤ rdE l by omega)
  obtain ⟨eq1, hQl⟩ := toQ_eq hok wc
  have hSl := toS_len (pt := pt) hok
  obtain ⟨e, hll⟩ := toL_eq (pt := pt) hok wc
  have eG : (l.drop (A + S)).take (A + E - (A + S)) = rdG l := by
    rw [← g3, hA, hS, hE]; congr 1; congr 1; omega
  have eD : toQ l cs = if isV6 l = true then dest6 (l.drop A) cs else dest4 (l.drop A) cs := by
    unfold toQ ipQ; rw [hA, show (A : Int).toNat = A by omega]
  have eS : toS l cs pt = portL (rdP l) ((l.drop (A + S)).take (A + E - (A + S))) (toPt l pt) (rdDst l) cs := by unfold toS; rw [eG]
  have ed : decide (toOk l cs) = true := decide_eq_true hok
  have fin : ∀ {b : UInt8} {D T : List UInt8}, toL l cs pt = setsUp (l.take A ++ (b :: D)) (A + S) T → (∃ h', Runs Try.prog 9 [slB 0 l, .agg (cs ++ [.int .u16 pt])] [farB l] (.tup [.sl (some (7, 0)) l.length 0 false, .bool true]) h' ∧ h'[7]? = some (.cells (bys (setsUp (l.take A ++ (b :: D)) (A + S) T)) 1 .own none)) →
      ∃ v1 h1, Runs Try.prog 9 [slB 0 l, .agg (cs ++ [.int .u16 pt])] [farB l] v1 h1 ∧ ∃ ks, ∀ K, Den h1 1 K ks v1 (.tup [slB K (toL l cs pt), .bool (decide (toOk l cs))]) [ownB (toL l cs pt)] ∧ KsOk ks := by
    rintro b D T hT ⟨h', hr', h7⟩
    rw [← hT] at h7
    rw [ed]
    refine ⟨_, _, hr', [some 7] ++ [], fun K => ⟨.tup _ _ _ _ _ (.cons _ [some 7] [] _ _ _ _ _ _ (denP9 (l := toL l cs pt) (by decide) h7 rfl (by omega) (by omega) ?_) (.cons _ [] [] _ _ _ _ _ _ (.flat _ _ rfl) (.nil _))), ksOk1 _⟩⟩
    rw [List.drop_zero, ← hll, List.take_length]
  rw [hA, hS, show ((A : Int) + (S : Int)).toNat = A + S by omega, show (A : Int).toNat = A by omega] at e
  rw [hA, show (A : Int).toNat = A by omega] at hQl
  rw [hA, hS, hE, show (A : Int) + (S : Int) = ((A + S : Nat) : Int) by omega, show (A : Int) + (E : Int) = ((A + E : Nat) : Int) by omega] at hv
  have h2 := hok.2.1
  have h3 := hok.2.2
  clear eq1
  generalize toQ l cs = D at *
  generalize toS l cs pt = T at *
  cases D with
  | nil => simp at hQl; omega
  | cons b D =>
  have hw2 := word_range (rdG l) 2
  refine fin e ?_
  by_cases hz : pt = 0
  · have ep : toPt l pt = word (rdG l) 2 := by unfold toPt; rw [if_pos hz]
    rw [ep] at eS
    cases h6 : isV6 l
    · rw [h6, if_neg (by simp)] at eD
      rw [h6] at hv h2
      exact rtoRunFT l D T b _ _ _ _ pt A (A + S) (A + E) (by omega) (by omega) _ _ cs (rdSrc_wf l) (rdDst_wf l) wc h2 h3 hv hz hpt hw2 eD.symm (by omega) eS.symm (by omega)
    · rw [h6, if_pos rfl] at eD
      rw [h6] at hv h2
      exact rtoRunTT l D T b _ _ _ _ pt A (A + S) (A + E) (by omega) (by omega) _ _ cs (rdSrc_wf l) (rdDst_wf l) wc h2 h3 hv hz hpt hw2 eD.symm (by omega) eS.symm (by omega)
  · have ep : toPt l pt = pt := by unfold toPt; rw [if_neg hz]
    rw [ep] at eS
    cases h6 : isV6 l
    · rw [h6, if_neg (by simp)] at eD
      rw [h6] at hv h2
      exact rtoRunFF l D T b _ _ _ _ pt A (A + S) (A + E) (by omega) (by omega) _ _ cs (rdSrc_wf l) (rdDst_wf l) wc h2 h3 hv hz hpt hpt eD.symm (by omega) eS.symm (by omega)
    · rw [h6, if_pos rfl] at eD
      rw [h6] at hv h2
      exact rtoRunTF l D T b _ _ _ _ pt A (A + S) (A + E) (by omega) (by omega) _ _ cs (rdSrc_wf l) (rdDst_wf l) wc h2 h3 hv hz hpt hpt eD.symm (by omega) eS.symm (by omega)
theorem sRt (L : List (Nat × AV × AHeap)) : SoundE Try.prog 9 (entF (eRel RtR L)) := by
  refine relR_sound (fun args h v new hR => ?_) L
  cases hR with
  | mk l O cs pt _ a k ok g hl wc hpt hO hok hk =>
  subst hk hO hok
  obtain ⟨gb, rfl⟩ := g
  have hf : AV.free (.agg (cs ++ [.int .u16 pt])) = true := by
    obtain ⟨v, X, rfl, hX⟩ := adrWf_B wc
    show AV.frees (AV.bool v :: bys X ++ [AV.int .u16 pt]) = true
    exact frees_append (l := AV.bool v :: bys X) (by show AV.frees (bys X) = true; simp) rfl
  obtain ⟨v1, h2, hr, ks, hd⟩ := rtRun (bOf h a) cs pt hl wc hpt
  exact ⟨[slB 0 (bOf h a), .agg (cs ++ [.int .u16 pt])], [farB (bOf h a)], .cons _ _ _ _ _ _ _ (bOk_canon gb 0) (.cons _ _ _ _ _ _ _ (.flat _ _ hf) (.nil _)), v1, h2, hr, ks, (hd _).1, (hd 0).2⟩

end Go.Proofs.Ytnchnjkakddhlaa.L
