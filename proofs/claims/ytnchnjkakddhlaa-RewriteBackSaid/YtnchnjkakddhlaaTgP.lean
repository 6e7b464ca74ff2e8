/- A packet that is cut at its end; what a frame to another one is. -/
import Derived.Test.YtnchnjkakddhlaaTgW
import Derived.Test.YtnchnjkakddhlaaCutKit
set_option autoImplicit false
set_option maxRecDepth 100000
set_option linter.unusedVariables false
set_option linter.unusedSimpArgs false
namespace Go.Proofs.Ytnchnjkakddhlaa.L
open Go Go.Abs

theorem zoz {q : List UInt8} (h : r4 q = 0) : r4 (q.take (zan q 2).toNat) = 0 := by
 obtain ⟨h1, h2, h3, h4, h5, h6⟩ := zfB h
 have w2 : zan (q.take (zan q 2).toNat) 2 = zan q 2 := zlX (by omega)
 have w6 : zan (q.take (zan q 2).toNat) 6 = zan q 6 := zlX (by omega)
 have b0 : byt (q.take (zan q 2).toNat) 0 = byt q 0 := zf6 (by omega)
 have b9 : byt (q.take (zan q 2).toNat) 9 = byt q 9 := zf6 (by omega)
 have s : s4 (q.take (zan q 2).toNat) = s4 q := by unfold s4; rw [b0]
 have t : (q.take (zan q 2).toNat).take (s4 q).toNat = q.take (s4 q).toNat := by rw [List.take_take]; congr 1; omega
 have hl : (q.take (zan q 2).toNat).length = (zan q 2).toNat := by simp; omega
 unfold r4 at h ⊢
 rw [hl, b0, s, w2, w6, b9, t]
 rw [if_neg (by omega)] at h
 rw [if_neg (by omega)]
 split at h; · omega
 split at h; · omega
 split at h; · omega
 split at h; · omega
 rw [if_neg (by omega), if_neg (by omega), if_neg (by omega), if_neg (by omega)]
 exact h
theorem zol {q : List UInt8} (h : r6 q = 0) : r6 (q.take (40 + zan q 4).toNat) = 0 := by
 obtain ⟨h1, h2, h3⟩ := zfR h
 have wr := zau q 4
 have w4 : zan (q.take (40 + zan q 4).toNat) 4 = zan q 4 := zlX (by omega)
 have b0 : byt (q.take (40 + zan q 4).toNat) 0 = byt q 0 := zf6 (by omega)
 have b6 : byt (q.take (40 + zan q 4).toNat) 6 = byt q 6 := zf6 (by omega)
 have hl : (q.take (40 + zan q 4).toNat).length = (40 + zan q 4).toNat := by simp; omega
 unfold r6 at h ⊢
 rw [hl, b0, w4, b6]
 rw [if_neg (by omega)] at h
 rw [if_neg (by omega)]
 split at h; · omega
 split at h; · omega
 rw [if_neg (by omega), if_neg (by omega)]
 exact h
theorem zgO (n : Nat) : ∀ (xs l : List UInt8) (p : Nat), zcf (l.take n) p xs = (zcf l p xs).take n
 | [], _, _ => rfl
 | x :: xs, l, p => by rw [zcf, zcf, ← zgO n xs, List.take_set]
theorem zgz {n : Nat} : ∀ (xs l : List UInt8) (p : Nat), p + xs.length ≤ n → (zcf l p xs).drop n = l.drop n
 | [], _, _, _ => rfl
 | x :: xs, l, p, h => by
  simp only [List.length_cons] at h
  rw [zcf, zgz xs _ _ (by omega), List.drop_set_of_lt (by omega)]
theorem zh4 {cs : List AV} (h : zas cs = true) : (zag cs).length = if za8 cs = true then 16 else 4 := by
 obtain ⟨v, X, rfl, hX⟩ := zdn h
 cases v <;> simp [zag, za8, hX]
theorem zm5 {q : List UInt8} {cs : List AV} (h : r4 q = 0) (hv : za8 cs = false) : (zc6 q cs).length = q.length := by
 unfold zc6; rw [if_pos ⟨h, hv⟩, zbH, zbH]
theorem zmK {q : List UInt8} {cs : List AV} (h : r6 q = 0) (hw : zas cs = true) (hv : za8 cs = true) : (zdw q cs).length = q.length := by
 have := ztq h
 have hb := zh4 hw
 rw [if_pos hv] at hb
 unfold zdw; rw [if_pos ⟨h, hv⟩]; simp [hb]; omega
theorem znE {q : List UInt8} {cs : List AV} (h : r4 q = 0) (hw : zas cs = true) (hv : za8 cs = false) : zc6 (q.take (zan q 2).toNat) cs ++ q.drop (zan q 2).toNat = zc6 q cs := by
 obtain ⟨h1, h2, h3, h4, h5, h6⟩ := zfB h
 have hb := zh4 hw
 rw [if_neg (by simp [hv])] at hb
 have w10 : zan (q.take (zan q 2).toNat) 10 = zan q 10 := zlX (by omega)
 have e16 : ((q.take (zan q 2).toNat).drop 16).take 4 = (q.drop 16).take 4 := by rw [List.drop_take, List.take_take]; congr 1; omega
 have ec : c4 (q.take (zan q 2).toNat) (zag cs) = c4 q (zag cs) := by unfold c4; rw [w10, e16]
 unfold zc6
 rw [if_pos ⟨zoz h, hv⟩, if_pos ⟨h, hv⟩, ec, zgO, zgO]
 have ed : (zcf (zcf q 10 (ziA (c4 q (zag cs)) 2)) 16 (zag cs)).drop (zan q 2).toNat = q.drop (zan q 2).toNat := by
  rw [zgz _ _ _ (by omega), zgz _ _ _ (by simp; omega)]
 rw [← ed, List.take_append_drop]
theorem znz {q : List UInt8} {cs : List AV} (h : r6 q = 0) (hw : zas cs = true) (hv : za8 cs = true) : zdw (q.take (40 + zan q 4).toNat) cs ++ q.drop (40 + zan q 4).toNat = zdw q cs := by
 obtain ⟨h1, h2, h3⟩ := zfR h
 have wr := zau q 4
 unfold zdw
 rw [if_pos ⟨zol h, hv⟩, if_pos ⟨h, hv⟩, List.take_take, show min 24 (40 + zan q 4).toNat = 24 by omega, List.append_assoc, List.append_assoc, List.append_assoc]
 congr 2
 rw [List.drop_take, show q.drop (40 + zan q 4).toNat = (q.drop 40).drop ((40 + zan q 4).toNat - 40) by rw [List.drop_drop]; congr 1; omega, List.take_append_drop]

def zl0 (l : List UInt8) (cs : List AV) : Prop := zb9 l = 0 ∧ za8 cs = zfm l ∧ zbd cs = true
instance (l : List UInt8) (cs : List AV) : Decidable (zl0 l cs) := by unfold zl0; infer_instance
def toD (l : List UInt8) (cs : List AV) : List UInt8 := if zfm l = true then zdw ((l.drop (za7 l).1.toNat).take (((za7 l).1 + rdE l).toNat - (za7 l).1.toNat)) cs else zc6 ((l.drop (za7 l).1.toNat).take (((za7 l).1 + rdE l).toNat - (za7 l).1.toNat)) cs
def zxQ (l : List UInt8) (pt : Int) : Int := if pt = 0 then zan (rdG l) 2 else pt
def toS (l : List UInt8) (cs : List AV) (pt : Int) : List UInt8 := zdL (rdP l) (rdG l) (zxQ l pt) (zd2 l) cs
def toL (l : List UInt8) (cs : List AV) (pt : Int) : List UInt8 := if zl0 l cs then zdu (zdu l (za7 l).1.toNat (toD l cs)) ((za7 l).1 + rdS l).toNat (toS l cs pt) else []
theorem zvd (l : List UInt8) : za8 (zd2 l) = zfm l := by unfold zd2; cases zfm l <;> rfl
theorem zwY {l : List UInt8} (h : zb9 l = 0) : (l.drop (za7 l).1.toNat).take (((za7 l).1 + rdE l).toNat - (za7 l).1.toNat) = (ipQ l).take (rdE l).toNat ∧ (zfm l = true → r6 (ipQ l) = 0 ∧ rdE l = 40 + zan (ipQ l) 4) ∧ (zfm l = false → r4 (ipQ l) = 0 ∧ rdE l = zan (ipQ l) 2) := by
 obtain ⟨h0, h1, h2, h3⟩ := zlD h
 obtain ⟨g0, g1, g2, g3, g4⟩ := zcY h
 refine ⟨?_, fun hv => ?_, fun hv => ?_⟩
 · unfold ipQ; congr 1; omega
 · unfold rdI at h2; rw [if_pos hv] at h2; unfold rdE; rw [if_pos hv]; exact ⟨h2, rfl⟩
 · unfold rdI at h2; rw [if_neg (by simp [hv])] at h2; unfold rdE; rw [if_neg (by simp [hv])]; exact ⟨h2, rfl⟩
theorem ztR {l : List UInt8} {cs : List AV} (h : zl0 l cs) (hw : zas cs = true) : (toD l cs).length = (rdE l).toNat := by
 obtain ⟨h1, h2, h3⟩ := h
 obtain ⟨e, e6, e4⟩ := zwY h1
 obtain ⟨g0, g1, g2, g3, g4⟩ := zcY h1
 have hq : (ipQ l).length = l.length - (za7 l).1.toNat := by unfold ipQ; simp
 unfold toD
 rw [e]
 cases hv : zfm l
 · obtain ⟨r, hE⟩ := e4 hv
   rw [if_neg (by simp), zm5 (by rw [hE]; exact zoz r) (by rw [h2, hv])]
   simp; omega
 · obtain ⟨r, hE⟩ := e6 hv
   rw [if_pos rfl, zmK (by rw [hE]; exact zol r) hw (by rw [h2, hv])]
   simp; omega
theorem zq3 {l : List UInt8} {cs : List AV} {pt : Int} (h : zl0 l cs) : (toS l cs pt).length = (rdE l).toNat - (rdS l).toNat := by
 obtain ⟨h1, h2, h3⟩ := h
 obtain ⟨g0, g1, g2, g3, g4⟩ := zcY h1
 obtain ⟨_, _, _, hs⟩ := zlD h1
 unfold toS
 rw [zh7 ⟨hs, by rw [zvd, h2]⟩, ← g3]
 simp; omega
theorem zx7 {l : List UInt8} (h : zb9 l = 0) : rdS l < rdE l := by
 obtain ⟨g0, g1, g2, g3, g4⟩ := zcY h
 obtain ⟨_, _, _, hs⟩ := zlD h
 have := zcx hs
 have hl : (rdG l).length = (rdE l).toNat - (rdS l).toNat := by rw [← g3]; simp; omega
 omega
def toQ (l : List UInt8) (cs : List AV) : List UInt8 := if zfm l = true then zdw (ipQ l) cs else zc6 (ipQ l) cs
theorem zzB {l : List UInt8} {cs : List AV} (h : zl0 l cs) (hw : zas cs = true) : zdu l (za7 l).1.toNat (toD l cs) = l.take (za7 l).1.toNat ++ toQ l cs ∧ (toQ l cs).length = l.length - (za7 l).1.toNat := by
 have hDl := ztR h hw
 obtain ⟨h1, h2, h3⟩ := h
 obtain ⟨e, e6, e4⟩ := zwY h1
 obtain ⟨g0, g1, g2, g3, g4⟩ := zcY h1
 have hq : (ipQ l).length = l.length - (za7 l).1.toNat := by unfold ipQ; simp
 have hd : l.drop ((za7 l).1.toNat + (toD l cs).length) = (ipQ l).drop (rdE l).toNat := by unfold ipQ; rw [List.drop_drop, hDl]
 unfold zdu
 rw [hd, List.append_assoc]
 cases hv : zfm l
 · obtain ⟨r, hE⟩ := e4 hv
   have eq : toQ l cs = zc6 (ipQ l) cs := by unfold toQ; rw [if_neg (by simp [hv])]
   have ed : toD l cs = zc6 ((ipQ l).take (rdE l).toNat) cs := by unfold toD; rw [e, if_neg (by simp [hv])]
   rw [eq, ed, hE, znE r hw (by rw [h2, hv]), zm5 r (by rw [h2, hv]), hq]
   exact ⟨rfl, rfl⟩
 · obtain ⟨r, hE⟩ := e6 hv
   have eq : toQ l cs = zdw (ipQ l) cs := by unfold toQ; rw [if_pos hv]
   have ed : toD l cs = zdw ((ipQ l).take (rdE l).toNat) cs := by unfold toD; rw [e, if_pos hv]
   rw [eq, ed, hE, znz r hw (by rw [h2, hv]), zmK r hw (by rw [h2, hv]), hq]
   exact ⟨rfl, rfl⟩
theorem zzr {l : List UInt8} {cs : List AV} {pt : Int} (h : zl0 l cs) (hw : zas cs = true) : toL l cs pt = zcf (l.take (za7 l).1.toNat ++ toQ l cs) ((za7 l).1 + rdS l).toNat (toS l cs pt) ∧ (toL l cs pt).length = l.length := by
 obtain ⟨e1, e2⟩ := zzB h hw
 have hSl := zq3 (pt := pt) h
 obtain ⟨g0, g1, g2, g3, g4⟩ := zcY h.1
 have hl : (l.take (za7 l).1.toNat ++ toQ l cs).length = l.length := by rw [List.length_append, e2, List.length_take]; omega
 have e : toL l cs pt = zcf (l.take (za7 l).1.toNat ++ toQ l cs) ((za7 l).1 + rdS l).toNat (toS l cs pt) := by
  unfold toL
  rw [if_pos h, e1, zeH _ _ _ (by omega)]; rfl
 exact ⟨e, by rw [e, zbH, hl]⟩

end Go.Proofs.Ytnchnjkakddhlaa.L
