/- A built frame to another one is a built frame. -/
import Derived.Test.YtnchnjkakddhlaaTgP
import Derived.Test.YtnchnjkakddhlaaSgbKit
import Derived.Test.YtnchnjkakddhlaaGoodF
set_option autoImplicit false
set_option maxRecDepth 100000
set_option linter.unusedVariables false
set_option linter.unusedSimpArgs false
namespace Go.Proofs.Ytnchnjkakddhlaa.L
open Go Go.Abs

def hC (v : Bool) (C : Int) (Y Y' : List UInt8) : Int := if v = true then C else zaR C (Y.take 4) (Y'.take 4)
theorem zlV {v : Bool} {C : Int} {Y Y' : List UInt8} (h : 0 ≤ C ∧ C < 65536) : 0 ≤ hC v C Y Y' ∧ hC v C Y Y' < 65536 := by
 unfold hC; split
 · exact h
 · exact zbI _ _ h
structure FrmOk (v tag u : Bool) (C Cs sp dp : Int) (fl : UInt8) (X Y d pd : List UInt8) : Prop where
 hx : okY v X
 hy : okY v Y
 hc : 0 ≤ C ∧ C < 65536
 hcs : 0 ≤ Cs ∧ Cs < 65536
 hsp : 0 ≤ sp ∧ sp < 65536
 hdp : 0 ≤ dp ∧ dp < 65536
 hd : d.length ≤ 2000
 hpd : pd.length ≤ 100
 chk : v = false → zft (ipH false (prt u) (zbU u sp dp fl Cs d).length C X Y) = 0
def frB (v tag u : Bool) (C Cs sp dp : Int) (fl : UInt8) (X Y d pd : List UInt8) : List UInt8 := frm v tag (prt u) C X Y (zbU u sp dp fl Cs d) pd
theorem zoP (u : Bool) : hdn u ≤ 20 := by cases u <;> decide
theorem zd5 {v tag u : Bool} {C Cs sp dp : Int} {fl : UInt8} {X Y d pd : List UInt8} (H : FrmOk v tag u C Cs sp dp fl X Y d pd) : (frB v tag u C Cs sp dp fl X Y d pd).length = frA tag + frH v + (hdn u + d.length) + pd.length := by
 unfold frB; rw [zkU H.hx.1 H.hy.1, zaQ]
theorem zfh {v tag u : Bool} {C Cs sp dp : Int} {fl : UInt8} {X Y d pd : List UInt8} (H : FrmOk v tag u C Cs sp dp fl X Y d pd) :
 zb9 (frB v tag u C Cs sp dp fl X Y d pd) = 0 ∧ rdG (frB v tag u C Cs sp dp fl X Y d pd) = zbU u sp dp fl Cs d ∧
 zci (frB v tag u C Cs sp dp fl X Y d pd) = .tup [.agg (zaO v (frA tag) (frA tag + frH v : Nat) (frA tag + frH v + (hdn u + d.length) : Nat) (prt u) (.bool v :: bys X) (.bool v :: bys Y) sp dp (if u = true then 0 else (fl.toNat : Int))), .int .i64 0] := by
 have hd := H.hd
 have hp := H.hpd
 have hu := zoP u
 have hA : frA tag ≤ 18 := by cases tag <;> decide
 have hH : frH v ≤ 40 := by cases v <;> decide
 have r := zu1 (v := v) (tag := tag) (u := u) (C := C) (X := X) (Y := Y) (sg := zbU u sp dp fl Cs d) (pd := pd) H.hx H.hy (by rw [zaQ]; omega) (by rw [zaQ]; omega) H.chk (zhi (by omega))
 rw [zo3 H.hsp, zhW H.hdp, zqS (by omega), zaQ] at r
 exact r
theorem zl2 {v tag u : Bool} {C Cs sp dp : Int} {fl : UInt8} {X Y d pd : List UInt8} (H : FrmOk v tag u C Cs sp dp fl X Y d pd) :
 let F := frB v tag u C Cs sp dp fl X Y d pd
 zfm F = v ∧ (za7 F).1 = frA tag ∧ (za7 F).1 + rdS F = (frA tag + frH v : Nat) ∧ rdP F = prt u ∧ ze2 F = .bool v :: bys X ∧ zd2 F = .bool v :: bys Y ∧ zan (rdG F) 2 = dp := by
 obtain ⟨h1, h2, h3⟩ := zfh H
 obtain ⟨g1, g2, g3, g4, g5, g6, g7, g8, g9, g10⟩ := zvG h1 h3 (zaK H.hx.1) (zaK H.hy.1)
 exact ⟨g1, g2, g3, g5, g6, g7, g9⟩
theorem zw7 {v : Bool} {Y : List UInt8} (h : okY v Y) : zbd (.bool v :: bys Y) = true := by
 cases v
 · show ((bys Y).drop 4).all zlN = true
   rw [zb1, h.2 rfl]; rfl
 · rfl
theorem zke {v tag u : Bool} {C Cs sp dp pt : Int} {fl : UInt8} {X Y Y' d pd : List UInt8} (H : FrmOk v tag u C Cs sp dp fl X Y d pd) (hY' : okY v Y') (hpt : 0 ≤ pt ∧ pt < 65536) :
 zl0 (frB v tag u C Cs sp dp fl X Y d pd) (.bool v :: bys Y') ∧
 toL (frB v tag u C Cs sp dp fl X Y d pd) (.bool v :: bys Y') pt = frB v tag u (hC v C Y Y') (pC u Cs dp (if pt = 0 then dp else pt) (adW v Y) (adW v Y')) sp (if pt = 0 then dp else pt) fl X Y' d pd ∧
 FrmOk v tag u (hC v C Y Y') (pC u Cs dp (if pt = 0 then dp else pt) (adW v Y) (adW v Y')) sp (if pt = 0 then dp else pt) fl X Y' d pd := by
 obtain ⟨h1, h2, h3⟩ := zfh H
 obtain ⟨g1, g2, g3, g4, g5, g6, g7⟩ := zl2 H
 have hok : zl0 (frB v tag u C Cs sp dp fl X Y d pd) (.bool v :: bys Y') := ⟨h1, by rw [g1]; rfl, zw7 hY'⟩
 have hw : zas (.bool v :: bys Y') = true := zaK hY'.1
 have hq : 0 ≤ (if pt = 0 then dp else pt) ∧ (if pt = 0 then dp else pt) < 65536 := by split; exact H.hdp; exact hpt
 have hS : toS (frB v tag u C Cs sp dp fl X Y d pd) (.bool v :: bys Y') pt = zbU u sp (if pt = 0 then dp else pt) fl (pC u Cs dp (if pt = 0 then dp else pt) (adW v Y) (adW v Y')) d := by
  unfold toS zxQ
  rw [g4, h2, g6, zhW H.hdp]
  exact zps H.hy.1 hY'.1 (by have := H.hd; omega) H.hcs H.hdp hq
 obtain ⟨i1, i6, i4⟩ := zwY h1
 have hipQ : ipQ (frB v tag u C Cs sp dp fl X Y d pd) = ipH v (prt u) (zbU u sp dp fl Cs d).length C X Y ++ (zbU u sp dp fl Cs d ++ pd) := by unfold frB frm; exact zy9 _ _ _
 have hlen2 : (zbU u sp dp fl Cs d).length = (zbU u sp (if pt = 0 then dp else pt) fl (pC u Cs dp (if pt = 0 then dp else pt) (adW v Y) (adW v Y')) d).length := by rw [zaQ, zaQ]
 have hQ : toQ (frB v tag u C Cs sp dp fl X Y d pd) (.bool v :: bys Y') = ipH v (prt u) (zbU u sp dp fl Cs d).length (hC v C Y Y') X Y' ++ (zbU u sp dp fl Cs d ++ pd) := by
  unfold toQ
  rw [g1]
  cases v
  · obtain ⟨r, _⟩ := i4 g1
    rw [hipQ] at r ⊢
    rw [if_neg (by simp)]
    exact zvP (w := 0) (by simp [H.hx.1]) (by simp [H.hy.1]) H.hc rfl (by simp [hY'.1]) r
  · obtain ⟨r, _⟩ := i6 g1
    rw [hipQ] at r ⊢
    rw [if_pos rfl]
    have e : ∀ Z : List UInt8, ipH true (prt u) ((zbU u sp dp fl Cs d).length : Nat) C X Z ++ (zbU u sp dp fl Cs d ++ pd) = pk6 ((zbU u sp dp fl Cs d).length : Nat) (u8i (prt u)) X Z (zbU u sp dp fl Cs d ++ pd) := fun Z => rfl
    rw [e] at r ⊢
    exact zuw H.hx.1 H.hy.1 r
 have hchk : v = false → zft (ipH false (prt u) (zbU u sp (if pt = 0 then dp else pt) fl (pC u Cs dp (if pt = 0 then dp else pt) (adW v Y) (adW v Y')) d).length (hC v C Y Y') X Y') = 0 := by
  intro hv
  subst hv
  rw [← hlen2]
  exact zqj (by omega) H.hc (by simp [H.hx.1]) (by simp [H.hy.1]) (by simp [hY'.1]) (H.chk rfl)
 refine ⟨hok, ?_, ⟨H.hx, hY', zlV H.hc, ziE, H.hsp, hq, H.hd, H.hpd, hchk⟩⟩
 obtain ⟨e, _⟩ := zzr (pt := pt) hok hw
 rw [e, g3, g2, hQ, hS]
 have ht : (frB v tag u C Cs sp dp fl X Y d pd).take (frA tag : Int).toNat = zbn v tag := by
  unfold frB frm
  exact List.take_left' (by rw [zdY]; omega)
 rw [ht, Int.toNat_natCast]
 have hG : (zbn v tag ++ ipH v (prt u) (zbU u sp dp fl Cs d).length (hC v C Y Y') X Y').length = frA tag + frH v := by rw [List.length_append, zdY, zf2 H.hx.1 hY'.1]
 rw [← List.append_assoc, zeH _ _ _ (by rw [List.length_append, hG, List.length_append, ← hlen2]; omega)]
 rw [List.take_left' hG, ← hlen2]
 have hD : List.drop (frA tag + frH v + (zbU u sp dp fl Cs d).length) (zbn v tag ++ ipH v (prt u) (zbU u sp dp fl Cs d).length (hC v C Y Y') X Y' ++ (zbU u sp dp fl Cs d ++ pd)) = pd := by
  rw [← List.append_assoc]
  exact List.drop_left' (by rw [List.length_append, hG])
 rw [hD]
 unfold frB frm
 rw [← hlen2]
 simp only [List.append_assoc]

end Go.Proofs.Ytnchnjkakddhlaa.L
