/- rewrite.To's contract, of any bytes. -/
import Derived.Test.YtnchnjkakddhlaaTgP
set_option autoImplicit false
set_option maxRecDepth 100000
set_option linter.unusedVariables false
set_option linter.unusedSimpArgs false
namespace Go.Proofs.Ytnchnjkakddhlaa.L
open Go Go.Abs

inductive TgR : List AV → zaa → AV → zaa → Prop
 | mk (l O : List UInt8) (cs : List AV) (pt : Int) (h : zaa) (a : AV) (k : Nat) (ok : Bool) (g : bOk h a = true ∧ bOf h a = l) (hl : l.length ≤ 1000000000000) (wc : zas cs = true) (hpt : 0 ≤ pt ∧ pt < 65536) (hO : toL l cs pt = O) (hok : decide (zl0 l cs) = ok) (hk : h.length = k) :
  TgR [a, .agg (cs ++ [.int .u16 pt])] h (.tup [slB k O, .bool ok]) [zbo O]
theorem zyf {l : List UInt8} {cs : List AV} {pt : Int} (hO : toL l cs pt = []) (hok : decide (zl0 l cs) = false) {v1 : AV} {h1 : zaa} (hr : Runs Try.prog 8 [slB 0 l, .agg (cs ++ [.int .u16 pt])] [zaC l] (.tup [.sl none 0 0 true, .bool false]) h1) :
 ∃ v1 h1, Runs Try.prog 8 [slB 0 l, .agg (cs ++ [.int .u16 pt])] [zaC l] v1 h1 ∧ ∃ ks, ∀ K, Den h1 1 K ks v1 (.tup [slB K (toL l cs pt), .bool (decide (zl0 l cs))]) [zbo (toL l cs pt)] ∧ zkX ks := by
 rw [hO, hok]
 exact ⟨_, _, hr, [none] ++ [], fun K => ⟨.tup _ _ _ _ _ (.cons _ _ _ _ _ _ _ _ _ (.nil _ _ 1) (.cons _ [] [] _ _ _ _ _ _ (.flat _ _ rfl) (.nil _))), zdJ _⟩⟩
theorem zkz {l : List UInt8} {cs : List AV} {pt : Int} (h : ¬ zl0 l cs) : toL l cs pt = [] ∧ decide (zl0 l cs) = false := ⟨by unfold toL; rw [if_neg h], decide_eq_false h⟩
theorem zBj (l : List UInt8) (cs : List AV) (pt : Int) (hl : l.length ≤ 1000000000000) (wc : zas cs = true) (hpt : 0 ≤ pt ∧ pt < 65536) :
 ∃ v1 h1, Runs Try.prog 8 [slB 0 l, .agg (cs ++ [.int .u16 pt])] [zaC l] v1 h1 ∧ ∃ ks, ∀ K, Den h1 1 K ks v1 (.tup [slB K (toL l cs pt), .bool (decide (zl0 l cs))]) [zbo (toL l cs pt)] ∧ zkX ks := by
 by_cases hr : zb9 l = 0
 case neg =>
  have hn : ¬ zl0 l cs := fun h => hr h.1
  obtain ⟨h1, r⟩ := zBu l (zb9 l) pt hl cs wc rfl hr
  exact zyf (v1 := .any) (zkz (pt := pt) hn).1 (zkz (pt := pt) hn).2 r
 have hv := znA hr
 obtain ⟨g0, g1, g2, g3, g4⟩ := zcY hr
 have hpos := zx7 hr
 by_cases hok : zl0 l cs
 case neg =>
  have hb : za8 cs ≠ zfm l ∨ zbd cs = false := by
   by_cases h6 : za8 cs = zfm l
   · right
     cases hx : zbd cs with
     | false => rfl
     | true => exact absurd ⟨hr, h6, hx⟩ hok
   · exact .inl h6
  cases h6 : zfm l
  · rw [h6] at hv hb
    obtain ⟨h1, r⟩ := zAq l _ _ _ _ _ _ _ pt g2.2 _ _ cs (zed l) (zeZ l) wc hb hv
    exact zyf (v1 := .any) (zkz (pt := pt) hok).1 (zkz (pt := pt) hok).2 r
  · rw [h6] at hv hb
    obtain ⟨h1, r⟩ := zAr l _ _ _ _ _ _ _ pt g2.2 _ _ cs (zed l) (zeZ l) wc hb hv
    exact zyf (v1 := .any) (zkz (pt := pt) hok).1 (zkz (pt := pt) hok).2 r
 obtain ⟨A, hA⟩ := Int.eq_ofNat_of_zero_le g0
 obtain ⟨S, hS⟩ := Int.eq_ofNat_of_zero_le (show 0 ≤ rdS l by omega)
 obtain ⟨E, hE⟩ := Int.eq_ofNat_of_zero_le (show 0 ≤ rdE l by omega)
 have hDl := ztR hok wc
 have hSl := zq3 (pt := pt) hok
 have e : toL l cs pt = zdu (zdu l (za7 l).1.toNat (toD l cs)) ((za7 l).1 + rdS l).toNat (toS l cs pt) := by unfold toL; rw [if_pos hok]
 have eG : (l.drop (A + S)).take (A + E - (A + S)) = rdG l := by
  rw [← g3, hA, hS, hE]; congr 1; congr 1; omega
 have eD : toD l cs = if zfm l = true then zdw ((l.drop A).take (A + E - A)) cs else zc6 ((l.drop A).take (A + E - A)) cs := by
  unfold toD; rw [hA, hE, show ((A : Int) + (E : Int)).toNat = A + E by omega, show (A : Int).toNat = A by omega]
 have eS : toS l cs pt = zdL (rdP l) ((l.drop (A + S)).take (A + E - (A + S))) (zxQ l pt) (zd2 l) cs := by unfold toS; rw [eG]
 have ed : decide (zl0 l cs) = true := decide_eq_true hok
 rw [e, ed, hA, hS, show ((A : Int) + (S : Int)).toNat = A + S by omega, show (A : Int).toNat = A by omega]
 rw [hA, hS, hE, show (A : Int) + (S : Int) = ((A + S : Nat) : Int) by omega, show (A : Int) + (E : Int) = ((A + E : Nat) : Int) by omega] at hv
 have h2 := hok.2.1
 have h3 := hok.2.2
 generalize toD l cs = D at *
 generalize toS l cs pt = T at *
 cases D with
 | nil => simp at hDl; omega
 | cons b D =>
 cases T with
 | nil => simp at hSl; omega
 | cons c T =>
 have hw2 := zau (rdG l) 2
 by_cases hz : pt = 0
 · have ep : zxQ l pt = zan (rdG l) 2 := by unfold zxQ; rw [if_pos hz]
   rw [ep] at eS
   cases h6 : zfm l
   · rw [h6, if_neg (by simp)] at eD
     rw [h6] at hv h2
     exact zxE l D T b c _ _ _ _ pt A (A + S) (A + E) (by omega) (by omega) _ _ cs (zed l) (zeZ l) wc h2 h3 hv hz hw2 eD.symm (by omega) eS.symm (by omega)
   · rw [h6, if_pos rfl] at eD
     rw [h6] at hv h2
     exact zxR l D T b c _ _ _ _ pt A (A + S) (A + E) (by omega) (by omega) _ _ cs (zed l) (zeZ l) wc h2 h3 hv hz hw2 eD.symm (by omega) eS.symm (by omega)
 · have ep : zxQ l pt = pt := by unfold zxQ; rw [if_neg hz]
   rw [ep] at eS
   cases h6 : zfm l
   · rw [h6, if_neg (by simp)] at eD
     rw [h6] at hv h2
     exact zw8 l D T b c _ _ _ _ pt A (A + S) (A + E) (by omega) (by omega) _ _ cs (zed l) (zeZ l) wc h2 h3 hv hz hpt eD.symm (by omega) eS.symm (by omega)
   · rw [h6, if_pos rfl] at eD
     rw [h6] at hv h2
     exact zyp l D T b c _ _ _ _ pt A (A + S) (A + E) (by omega) (by omega) _ _ cs (zed l) (zeZ l) wc h2 h3 hv hz hpt eD.symm (by omega) eS.symm (by omega)
theorem sTg (L : List (Nat × AV × zaa)) : SoundE Try.prog 8 (zbj (zv8 TgR L)) := by
 refine zhP (fun args h v new hR => ?_) L
 cases hR with
 | mk l O cs pt _ a k ok g hl wc hpt hO hok hk =>
 subst hk hO hok
 obtain ⟨gb, rfl⟩ := g
 have hf : AV.free (.agg (cs ++ [.int .u16 pt])) = true := by
  obtain ⟨v, X, rfl, hX⟩ := zdn wc
  show AV.frees (AV.bool v :: bys X ++ [AV.int .u16 pt]) = true
  exact zh2 (l := AV.bool v :: bys X) (by show AV.frees (bys X) = true; simp) rfl
 obtain ⟨v1, h2, hr, ks, hd⟩ := zBj (bOf h a) cs pt hl wc hpt
 exact ⟨[slB 0 (bOf h a), .agg (cs ++ [.int .u16 pt])], [zaC (bOf h a)], .cons _ _ _ _ _ _ _ (zaJ gb 0) (.cons _ _ _ _ _ _ _ (.flat _ _ hf) (.nil _)), v1, h2, hr, ks, (hd _).1, (hd 0).2⟩

end Go.Proofs.Ytnchnjkakddhlaa.L
