/- A packet that is cut at its end; what a frame to another one is. -/
import Derived.Test.YtnchnjkakddhlaaTgW
import Derived.Test.YtnchnjkakddhlaaCutKit
set_option autoImplicit false
set_option maxRecDepth 100000
set_option linter.unusedVariables false
set_option linter.unusedSimpArgs false
namespace Go.Proofs.Ytnchnjkakddhlaa.L
open Go Go.Abs

theorem r4_whole {q : List UInt8} (h : r4 q = 0) : r4 (q.take (word q 2).toNat) = 0 := by
  obtain ⟨h1, h2, h3, h4, h5, h6⟩ := r4_bounds h
  have w2 : word (q.take (word q 2).toNat) 2 = word q 2 := wd_take (by omega)
  have w6 : word (q.take (word q 2).toNat) 6 = word q 6 := wd_take (by omega)
  have b0 : byt (q.take (word q 2).toNat) 0 = byt q 0 := byt_take (by omega)
  have b9 : byt (q.take (word q 2).toNat) 9 = byt q 9 := byt_take (by omega)
  have s : s4 (q.take (word q 2).toNat) = s4 q := by unfold s4; rw [b0]
  have t : (q.take (word q 2).toNat).take (s4 q).toNat = q.take (s4 q).toNat := by rw [List.take_take]; congr 1; omega
  have hl : (q.take (word q 2).toNat).length = (word q 2).toNat := by simp; omega
  unfold r4 at h ⊢
  rw [hl, b0, s, w2, w6, b9, t]
  rw [if_neg (by omega)] at h
  rw [if_neg (by omega)]
  split at h; · omega
  split at h; · omega
  split at h; · omega
  split at h; · omega
  rw [if_neg (by omega), if_neg (by omega), if_neg (by omega), if_neg (by omega)]
  exact h
theorem r6_whole {q : List UInt8} (h : r6 q = 0) : r6 (q.take (40 + word q 4).toNat) = 0 := by
  obtain ⟨h1, h2, h3⟩ := r6_bounds h
  have wr := word_range q 4
  have w4 : word (q.take (40 + word q 4).toNat) 4 = word q 4 := wd_take (by omega)
  have b0 : byt (q.take (40 + word q 4).toNat) 0 = byt q 0 := byt_take (by omega)
  have b6 : byt (q.take (40 + word q 4).toNat) 6 = byt q 6 := byt_take (by omega)
  have hl : (q.take (40 + word q 4).toNat).length = (40 + word q 4).toNat := by simp; omega
  unfold r6 at h ⊢
  rw [hl, b0, w4, b6]
  rw [if_neg (by omega)] at h
  rw [if_neg (by omega)]
  split at h; · omega
  split at h; · omega
  rw [if_neg (by omega), if_neg (by omega)]
  exact h
theorem setsUp_take (n : Nat) : ∀ (xs l : List UInt8) (p : Nat), setsUp (l.take n) p xs = (setsUp l p xs).take n
  | [], _, _ => rfl
  | x :: xs, l, p => by rw [setsUp, setsUp, ← setsUp_take n xs, List.take_set]
theorem setsUp_drop {n : Nat} : ∀ (xs l : List UInt8) (p : Nat), p + xs.length ≤ n → (setsUp l p xs).drop n = l.drop n
  | [], _, _, _ => rfl
  | x :: xs, l, p, h => by
    simp only [List.length_cons] at h
    rw [setsUp, setsUp_drop xs _ _ (by omega), List.drop_set_of_lt (by omega)]
theorem adrBytes_len {cs : List AV} (h : adrWf cs = true) : (adrBytes cs).length = if adrV6 cs = true then 16 else 4 := by
  obtain ⟨v, X, rfl, hX⟩ := adrWf_B h
  cases v <;> simp [adrBytes, adrV6, hX]
theorem dest4_len {q : List UInt8} {cs : List AV} (h : r4 q = 0) (hv : adrV6 cs = false) : (dest4 q cs).length = q.length := by
  unfold dest4; rw [if_pos ⟨h, hv⟩, setsUp_length, setsUp_length]
theorem dest6_len {q : List UInt8} {cs : List AV} (h : r6 q = 0) (hw : adrWf cs = true) (hv : adrV6 cs = true) : (dest6 q cs).length = q.length := by
  have := r6_len h
  have hb := adrBytes_len hw
  rw [if_pos hv] at hb
  unfold dest6; rw [if_pos ⟨h, hv⟩]; simp [hb]; omega
theorem dest4_whole {q : List UInt8} {cs : List AV} (h : r4 q = 0) (hw : adrWf cs = true) (hv : adrV6 cs = false) : dest4 (q.take (word q 2).toNat) cs ++ q.drop (word q 2).toNat = dest4 q cs := by
  obtain ⟨h1, h2, h3, h4, h5, h6⟩ := r4_bounds h
  have hb := adrBytes_len hw
  rw [if_neg (by simp [hv])] at hb
  have w10 : word (q.take (word q 2).toNat) 10 = word q 10 := wd_take (by omega)
  have e16 : ((q.take (word q 2).toNat).drop 16).take 4 = (q.drop 16).take 4 := by rw [List.drop_take, List.take_take]; congr 1; omega
  have ec : c4 (q.take (word q 2).toNat) (adrBytes cs) = c4 q (adrBytes cs) := by unfold c4; rw [w10, e16]
  unfold dest4
  rw [if_pos ⟨r4_whole h, hv⟩, if_pos ⟨h, hv⟩, ec, setsUp_take, setsUp_take]
  have ed : (setsUp (setsUp q 10 (bigR (c4 q (adrBytes cs)) 2)) 16 (adrBytes cs)).drop (word q 2).toNat = q.drop (word q 2).toNat := by
    rw [setsUp_drop _ _ _ (by omega), setsUp_drop _ _ _ (by simp; omega)]
  rw [← ed, List.take_append_drop]
theorem dest6_whole {q : List UInt8} {cs : List AV} (h : r6 q = 0) (hw : adrWf cs = true) (hv : adrV6 cs = true) : dest6 (q.take (40 + word q 4).toNat) cs ++ q.drop (40 + word q 4).toNat = dest6 q cs := by
  obtain ⟨h1, h2, h3⟩ := r6_bounds h
  have wr := word_range q 4
  unfold dest6
  rw [if_pos ⟨r6_whole h, hv⟩, if_pos ⟨h, hv⟩, List.take_take, show min 24 (40 + word q 4).toNat = 24 by omega, List.append_assoc, List.append_assoc, List.append_assoc]
  congr 2
  rw [List.drop_take, show q.drop (40 + word q 4).toNat = (q.drop 40).drop ((40 + word q 4).toNat - 40) by rw [List.drop_drop]; congr 1; omega, List.take_append_drop]

def toOk (l : List UInt8) (cs : List AV) : Prop := readR l = 0 ∧ adrV6 cs = isV6 l ∧ adrValid cs = true
instance (l : List UInt8) (cs : List AV) : Decidable (toOk l cs) := by unfold toOk; infer_instance
def toD (l : List UInt8) (cs : List AV) : List UInt8 := if isV6 l = true then dest6 ((l.drop (netR l).1.toNat).take (((netR l).1 + rdE l).toNat - (netR l).1.toNat)) cs else dest4 ((l.drop (netR l).1.toNat).take (((netR l).1 + rdE l).toNat - (netR l).1.toNat)) cs
def toPt (l : List UInt8) (pt : Int) : Int := if pt = 0 then word (rdG l) 2 else pt
def toS (l : List UInt8) (cs : List AV) (pt : Int) : List UInt8 := portL (rdP l) (rdG l) (toPt l pt) (rdDst l) cs
def toL (l : List UInt8) (cs : List AV) (pt : Int) : List UInt8 := if toOk l cs then over (over l (netR l).1.toNat (toD l cs)) ((netR l).1 + rdS l).toNat (toS l cs pt) else []
theorem rdDst_v6 (l : List UInt8) : adrV6 (rdDst l) = isV6 l := by unfold rdDst; cases isV6 l <;> rfl
theorem to_ip {l : List UInt8} (h : readR l = 0) : (l.drop (netR l).1.toNat).take (((netR l).1 + rdE l).toNat - (netR l).1.toNat) = (ipQ l).take (rdE l).toNat ∧ (isV6 l = true → r6 (ipQ l) = 0 ∧ rdE l = 40 + word (ipQ l) 4) ∧ (isV6 l = false → r4 (ipQ l) = 0 ∧ rdE l = word (ipQ l) 2) := by
  obtain ⟨h0, h1, h2, h3⟩ := readR_0 h
  obtain ⟨g0, g1, g2, g3, g4⟩ := good_facts h
  refine ⟨?_, fun hv => ?_, fun hv => ?_⟩
  · unfold ipQ; congr 1; omega
  · unfold rdI at h2; rw [if_pos hv] at h2; unfold rdE; rw [if_pos hv]; exact ⟨h2, rfl⟩
  · unfold rdI at h2; rw [if_neg (by simp [hv])] at h2; unfold rdE; rw [if_neg (by simp [hv])]; exact ⟨h2, rfl⟩
theorem toD_len {l : List UInt8} {cs : List AV} (h : toOk l cs) (hw : adrWf cs = true) : (toD l cs).length = (rdE l).toNat := by
  obtain ⟨h1, h2, h3⟩ := h
  obtain ⟨e, e6, e4⟩ := to_ip h1
  obtain ⟨g0, g1, g2, g3, g4⟩ := good_facts h1
  have hq : (ipQ l).length = l.length - (netR l).1.toNat := by unfold ipQ; simp
  unfold toD
  rw [e]
  cases hv : isV6 l
  · obtain ⟨r, hE⟩ := e4 hv
    rw [if_neg (by simp), dest4_len (by rw [hE]; exact r4_whole r) (by rw [h2, hv])]
    simp; omega
  · obtain ⟨r, hE⟩ := e6 hv
    rw [if_pos rfl, dest6_len (by rw [hE]; exact r6_whole r) hw (by rw [h2, hv])]
    simp; omega
theorem toS_len {l : List UInt8} {cs : List AV} {pt : Int} (h : toOk l cs) : (toS l cs pt).length = (rdE l).toNat - (rdS l).toNat := by
  obtain ⟨h1, h2, h3⟩ := h
  obtain ⟨g0, g1, g2, g3, g4⟩ := good_facts h1
  obtain ⟨_, _, _, hs⟩ := readR_0 h1
  unfold toS
  rw [portL_length ⟨hs, by rw [rdDst_v6, h2]⟩, ← g3]
  simp; omega
theorem rdG_pos {l : List UInt8} (h : readR l = 0) : rdS l < rdE l := by
  obtain ⟨g0, g1, g2, g3, g4⟩ := good_facts h
  obtain ⟨_, _, _, hs⟩ := readR_0 h
  have := segR_len hs
  have hl : (rdG l).length = (rdE l).toNat - (rdS l).toNat := by rw [← g3]; simp; omega
  omega
def toQ (l : List UInt8) (cs : List AV) : List UInt8 := if isV6 l = true then dest6 (ipQ l) cs else dest4 (ipQ l) cs
theorem toQ_eq {l : List UInt8} {cs : List AV} (h : toOk l cs) (hw : adrWf cs = true) : over l (netR l).1.toNat (toD l cs) = l.take (netR l).1.toNat ++ toQ l cs ∧ (toQ l cs).length = l.length - (netR l).1.toNat := by
  have hDl := toD_len h hw
  obtain ⟨h1, h2, h3⟩ := h
  obtain ⟨e, e6, e4⟩ := to_ip h1
  obtain ⟨g0, g1, g2, g3, g4⟩ := good_facts h1
  have hq : (ipQ l).length = l.length - (netR l).1.toNat := by unfold ipQ; simp
  have hd : l.drop ((netR l).1.toNat + (toD l cs).length) = (ipQ l).drop (rdE l).toNat := by unfold ipQ; rw [List.drop_drop, hDl]
  unfold over
  rw [hd, List.append_assoc]
  cases hv : isV6 l
  · obtain ⟨r, hE⟩ := e4 hv
    have eq : toQ l cs = dest4 (ipQ l) cs := by unfold toQ; rw [if_neg (by simp [hv])]
    have ed : toD l cs = dest4 ((ipQ l).take (rdE l).toNat) cs := by unfold toD; rw [e, if_neg (by simp [hv])]
    rw [eq, ed, hE, dest4_whole r hw (by rw [h2, hv]), dest4_len r (by rw [h2, hv]), hq]
    exact ⟨rfl, rfl⟩
  · obtain ⟨r, hE⟩ := e6 hv
    have eq : toQ l cs = dest6 (ipQ l) cs := by unfold toQ; rw [if_pos hv]
    have ed : toD l cs = dest6 ((ipQ l).take (rdE l).toNat) cs := by unfold toD; rw [e, if_pos hv]
    rw [eq, ed, hE, dest6_whole r hw (by rw [h2, hv]), dest6_len r hw (by rw [h2, hv]), hq]
    exact ⟨rfl, rfl⟩
theorem toL_eq {l : List UInt8} {cs : List AV} {pt : Int} (h : toOk l cs) (hw : adrWf cs = true) : toL l cs pt = setsUp (l.take (netR l).1.toNat ++ toQ l cs) ((netR l).1 + rdS l).toNat (toS l cs pt) ∧ (toL l cs pt).length = l.length := by
  obtain ⟨e1, e2⟩ := toQ_eq h hw
  have hSl := toS_len (pt := pt) h
  obtain ⟨g0, g1, g2, g3, g4⟩ := good_facts h.1
  have hl : (l.take (netR l).1.toNat ++ toQ l cs).length = l.length := by rw [List.length_append, e2, List.length_take]; omega
  have e : toL l cs pt = setsUp (l.take (netR l).1.toNat ++ toQ l cs) ((netR l).1 + rdS l).toNat (toS l cs pt) := by
    unfold toL
    rw [if_pos h, e1, setsUp_eq _ _ _ (by omega)]; rfl
  exact ⟨e, by rw [e, setsUp_length, hl]⟩

end Go.Proofs.Ytnchnjkakddhlaa.L
