/- zkp: what is read of them. -/
import Derived.Test.YtnchnjkakddhlaaBuildKit
import Derived.Test.YtnchnjkakddhlaaAddrB
set_option autoImplicit false
set_option linter.unusedVariables false
set_option linter.unusedSimpArgs false
namespace Go.Proofs.Ytnchnjkakddhlaa.L
open Go Go.Abs

def okY (v : Bool) (Y : List UInt8) : Prop := Y.length = 16 ∧ (v = false → Y.drop 4 = Z12)
def ipH (v : Bool) (p L C : Int) (X Y : List UInt8) : List UInt8 := if v = true then [96, 0, 0, 0, u8i (L / 256), u8i L, u8i p, 64] ++ X ++ Y else hdO 0 (20 + L) (u8i p) C (X.take 4) (Y.take 4) []
def frm (v tag : Bool) (p C : Int) (X Y sg pd : List UInt8) : List UInt8 := zbn v tag ++ (ipH v p sg.length C X Y ++ (sg ++ pd))
def frA (tag : Bool) : Nat := if tag = true then 18 else 14
def frH (v : Bool) : Nat := if v = true then 40 else 20

theorem zdY (v tag : Bool) : (zbn v tag).length = frA tag := by cases v <;> cases tag <;> rfl
theorem zf2 {v : Bool} {p L C : Int} {X Y : List UInt8} (hX : X.length = 16) (hY : Y.length = 16) : (ipH v p L C X Y).length = frH v := by
 cases v <;> simp [ipH, frH, hdO, hX, hY]
theorem zkU {v tag : Bool} {p C : Int} {X Y sg pd : List UInt8} (hX : X.length = 16) (hY : Y.length = 16) : (frm v tag p C X Y sg pd).length = frA tag + frH v + sg.length + pd.length := by
 unfold frm
 rw [List.length_append, List.length_append, List.length_append, zdY, zf2 hX hY]; omega
theorem zyW (v tag : Bool) (r : List UInt8) : za7 (zbn v tag ++ r) = ((frA tag : Int), if v = true then 34525 else 2048, 0) := by
 have key : ∀ (E : List UInt8) (w12 w16 : Int), E.length = frA tag → (zan (E ++ r) 12 = w12) → (tag = true → zan (E ++ r) 16 = w16) → (tag = false → w12 = if v = true then 34525 else 2048) → (tag = true → w12 = 33024 ∧ w16 = if v = true then 34525 else 2048) →
  za7 (E ++ r) = ((frA tag : Int), if v = true then 34525 else 2048, 0) := by
  intro E w12 w16 hl h12 h16 hf ht
  unfold za7 zuh
  rw [List.length_append, hl, h12]
  cases tag
  · have e := hf rfl
    rw [e]
    have e2 : frA false = 14 := rfl
    rw [e2, if_neg (by omega), if_neg (by cases v <;> decide)]
    cases v <;> simp
  · obtain ⟨e, e3⟩ := ht rfl
    rw [h16 rfl, e, e3]
    have e2 : frA true = 18 := rfl
    rw [e2, if_neg (by omega), if_pos rfl, if_neg (by omega)]
    cases v <;> simp
 cases v <;> cases tag
 · exact key _ 2048 0 rfl (by show ((8 : UInt8).toNat : Int) * 256 + ((0 : UInt8).toNat : Int) = 2048; decide) (fun h => by simp at h) (fun _ => rfl) (fun h => by simp at h)
 · exact key _ 33024 2048 rfl (by show ((129 : UInt8).toNat : Int) * 256 + ((0 : UInt8).toNat : Int) = 33024; decide) (fun _ => by show ((8 : UInt8).toNat : Int) * 256 + ((0 : UInt8).toNat : Int) = 2048; decide) (fun h => by simp at h) (fun _ => ⟨rfl, rfl⟩)
 · exact key _ 34525 0 rfl (by show ((134 : UInt8).toNat : Int) * 256 + ((221 : UInt8).toNat : Int) = 34525; decide) (fun h => by simp at h) (fun _ => rfl) (fun h => by simp at h)
 · exact key _ 33024 34525 rfl (by show ((129 : UInt8).toNat : Int) * 256 + ((0 : UInt8).toNat : Int) = 33024; decide) (fun _ => by show ((134 : UInt8).toNat : Int) * 256 + ((221 : UInt8).toNat : Int) = 34525; decide) (fun h => by simp at h) (fun _ => ⟨rfl, rfl⟩)
theorem zy9 (v tag : Bool) (r : List UInt8) : ipQ (zbn v tag ++ r) = r := by
 unfold ipQ
 rw [zyW]
 show List.drop ((frA tag : Nat) : Int).toNat _ = r
 rw [show ((frA tag : Nat) : Int).toNat = (zbn v tag).length by rw [zdY]; omega, List.drop_left]

theorem zye (u : Bool) : 0 ≤ prt u ∧ prt u < 256 ∧ ((u8i (prt u)).toNat : Int) = prt u ∧ (u8i (prt u) = 6 ∨ u8i (prt u) = 17) := by
 cases u
 · exact ⟨by decide, by decide, by decide, .inl (by decide)⟩
 · exact ⟨by decide, by decide, by decide, .inr (by decide)⟩

theorem ztN {u : Bool} {C : Int} {X Y sg pd : List UInt8} (hX : okY false X) (hY : okY false Y) (hL : sg.length ≤ 65515) (hv : zft (ipH false (prt u) sg.length C X Y) = 0) :
 r4 (ipH false (prt u) sg.length C X Y ++ (sg ++ pd)) = 0 ∧ s4 (ipH false (prt u) sg.length C X Y ++ (sg ++ pd)) = 20 ∧ zan (ipH false (prt u) sg.length C X Y ++ (sg ++ pd)) 2 = 20 + sg.length ∧ byt (ipH false (prt u) sg.length C X Y ++ (sg ++ pd)) 9 = prt u ∧
 zhr (ipH false (prt u) sg.length C X Y ++ (sg ++ pd)) 12 = .bool false :: bys X ∧ zhr (ipH false (prt u) sg.length C X Y ++ (sg ++ pd)) 16 = .bool false :: bys Y := by
 have hS : (X.take 4).length = 4 := by simp [hX.1]
 have hD : (Y.take 4).length = 4 := by simp [hY.1]
 have eX : X.take 4 ++ Z12 = X := by rw [← hX.2 rfl, List.take_append_drop]
 have eY : Y.take 4 ++ Z12 = Y := by rw [← hY.2 rfl, List.take_append_drop]
 obtain ⟨_, _, hpt, hp⟩ := zye u
 have h := zum (w := 0) (L := 20 + sg.length) (p := u8i (prt u)) (C := C) (S := X.take 4) (D := Y.take 4) (O := []) (d := sg ++ pd) (by omega) hS hD rfl (by simp; omega) hp hv
 have e : pkO 0 (20 + sg.length) (u8i (prt u)) C (X.take 4) (Y.take 4) [] (sg ++ pd) = ipH false (prt u) sg.length C X Y ++ (sg ++ pd) := rfl
 rw [e] at h
 obtain ⟨h1, h2⟩ := h
 generalize ipH false (prt u) sg.length C X Y ++ (sg ++ pd) = q at h1 h2
 have h3 := zAh h1
 unfold zbu at h3
 rw [h2, h1] at h3
 simp only [AV.tup.injEq, List.cons.injEq, AV.agg.injEq, and_true] at h3
 rw [eX, eY, hpt] at h3
 have hl1 : (AV.bool false :: bys X).length = (zhr q 12).length := by simp [zhr, zbx, hX.1]
 have a1 := List.append_inj h3 (by simp [hX.1, zhr, zbx])
 obtain ⟨a2, a3⟩ := a1
 have a4 := List.append_inj a2 rfl
 obtain ⟨a5, a6⟩ := a4
 simp only [List.cons.injEq, AV.int.injEq, true_and, and_true] at a5
 refine ⟨h1, ?_, a5.2.1.symm, a5.2.2.symm, a6.symm, a3.symm⟩
 have := a5.1; simp at this; exact this.symm
theorem ztT {u : Bool} {C : Int} {X Y sg pd : List UInt8} (hX : okY true X) (hY : okY true Y) (hL : sg.length ≤ 65515) :
 r6 (ipH true (prt u) sg.length C X Y ++ (sg ++ pd)) = 0 ∧ zan (ipH true (prt u) sg.length C X Y ++ (sg ++ pd)) 4 = sg.length ∧ byt (ipH true (prt u) sg.length C X Y ++ (sg ++ pd)) 6 = prt u ∧
 zdm (ipH true (prt u) sg.length C X Y ++ (sg ++ pd)) 8 = .bool true :: bys X ∧ zdm (ipH true (prt u) sg.length C X Y ++ (sg ++ pd)) 24 = .bool true :: bys Y := by
 obtain ⟨_, _, hpt, hp⟩ := zye u
 obtain ⟨x0, x1, x2, x3, x4, x5, x6, x7, x8, x9, x10, x11, x12, x13, x14, x15, rfl⟩ := zdT hX.1
 obtain ⟨y0, y1, y2, y3, y4, y5, y6, y7, y8, y9, y10, y11, y12, y13, y14, y15, rfl⟩ := zdT hY.1
 have b4 : zan (ipH true (prt u) sg.length C [x0, x1, x2, x3, x4, x5, x6, x7, x8, x9, x10, x11, x12, x13, x14, x15] [y0, y1, y2, y3, y4, y5, y6, y7, y8, y9, y10, y11, y12, y13, y14, y15] ++ (sg ++ pd)) 4 = sg.length := by
  show ((u8i ((sg.length : Int) / 256)).toNat : Int) * 256 + ((u8i (sg.length : Int)).toNat : Int) = sg.length
  rw [zaG, zaG]; omega
 have b6 : byt (ipH true (prt u) sg.length C [x0, x1, x2, x3, x4, x5, x6, x7, x8, x9, x10, x11, x12, x13, x14, x15] [y0, y1, y2, y3, y4, y5, y6, y7, y8, y9, y10, y11, y12, y13, y14, y15] ++ (sg ++ pd)) 6 = prt u := hpt
 have b0 : byt (ipH true (prt u) sg.length C [x0, x1, x2, x3, x4, x5, x6, x7, x8, x9, x10, x11, x12, x13, x14, x15] [y0, y1, y2, y3, y4, y5, y6, y7, y8, y9, y10, y11, y12, y13, y14, y15] ++ (sg ++ pd)) 0 = 96 := by
  show ((96 : UInt8).toNat : Int) = 96; decide
 refine ⟨?_, b4, b6, rfl, rfl⟩
 have hl : (ipH true (prt u) sg.length C [x0, x1, x2, x3, x4, x5, x6, x7, x8, x9, x10, x11, x12, x13, x14, x15] [y0, y1, y2, y3, y4, y5, y6, y7, y8, y9, y10, y11, y12, y13, y14, y15] ++ (sg ++ pd)).length = 40 + sg.length + pd.length := by simp [ipH]; omega
 unfold r6
 rw [hl, b0, b4, b6, if_neg (by omega), if_neg (by decide), if_neg (by omega), if_neg (by cases u <;> decide), if_neg (by cases u <;> decide)]

theorem zu1 {v tag u : Bool} {C : Int} {X Y sg pd : List UInt8} (hX : okY v X) (hY : okY v Y) (hL : sg.length ≤ 65515) (hlen : frA tag + frH v + sg.length + pd.length ≤ 65535) (hv : v = false → zft (ipH false (prt u) sg.length C X Y) = 0) (hs : zbW (prt u) sg = 0) :
 zb9 (frm v tag (prt u) C X Y sg pd) = 0 ∧ rdG (frm v tag (prt u) C X Y sg pd) = sg ∧
 zci (frm v tag (prt u) C X Y sg pd) = .tup [.agg (zaO v (frA tag) (frA tag + frH v : Nat) (frA tag + frH v + sg.length : Nat) (prt u) (.bool v :: bys X) (.bool v :: bys Y) (zan sg 0) (zan sg 2) (zca (prt u) sg)), .int .i64 0] := by
 have hl := zkU (v := v) (tag := tag) (p := prt u) (C := C) (sg := sg) (pd := pd) hX.1 hY.1
 have hn := zyW v tag (ipH v (prt u) sg.length C X Y ++ (sg ++ pd))
 have hq := zy9 v tag (ipH v (prt u) sg.length C X Y ++ (sg ++ pd))
 have hi := zf2 (v := v) (p := prt u) (L := sg.length) (C := C) hX.1 hY.1
 change za7 (frm v tag (prt u) C X Y sg pd) = _ at hn
 change ipQ (frm v tag (prt u) C X Y sg pd) = _ at hq
 generalize hF : frm v tag (prt u) C X Y sg pd = F at *
 have hG : ∀ (q : List UInt8) (H : Nat) (E : Int), q = ipH v (prt u) sg.length C X Y ++ (sg ++ pd) → H = frH v → E = (frH v : Int) + sg.length → ((q.drop ((H : Int)).toNat).take (E - (H : Int)).toNat) = sg := by
  intro q H E e1 e2 e3
  subst e1 e2 e3
  rw [show ((frH v : Nat) : Int).toNat = (ipH v (prt u) sg.length C X Y).length by rw [hi]; omega, List.drop_left, show ((frH v : Int) + sg.length - ((frH v : Nat) : Int)).toNat = sg.length by omega, List.take_left]
 cases v
 · obtain ⟨f1, f2, f3, f4, f5, f6⟩ := ztN (u := u) (C := C) (pd := pd) hX hY hL (hv rfl)
   rw [← hq] at f1 f2 f3 f4 f5 f6
   have iv : zfm F = false := by unfold zfm; rw [hn]; rfl
   have eS : rdS F = 20 := by unfold rdS; rw [iv]; exact f2
   have eE : rdE F = 20 + sg.length := by unfold rdE; rw [iv]; exact f3
   have eP : rdP F = prt u := by unfold rdP; rw [iv]; exact f4
   have eI : rdI F = 0 := by unfold rdI; rw [iv]; exact f1
   have eG : rdG F = sg := by unfold rdG; rw [eS, eE]; exact hG _ 20 _ hq rfl rfl
   have eR : zb9 F = 0 := by rw [zcG (by rw [hn]) (by omega) eI, eP, eG, hs]
   refine ⟨eR, eG, ?_⟩
   unfold zci zjs
   rw [eR, if_pos rfl, iv, eS, eE, eP, eG, hn]
   unfold ze2 zd2
   rw [iv, f5, f6]
   simp only [frH, Bool.false_eq_true, if_false, Int.natCast_add]
   rw [Int.add_assoc]; rfl
 · obtain ⟨f1, f3, f4, f5, f6⟩ := ztT (u := u) (C := C) (pd := pd) hX hY hL
   rw [← hq] at f1 f3 f4 f5 f6
   have iv : zfm F = true := by unfold zfm; rw [hn]; rfl
   have eS : rdS F = 40 := by unfold rdS; rw [iv]; rfl
   have eE : rdE F = 40 + sg.length := by unfold rdE; rw [iv]; show 40 + zan (ipQ F) 4 = _; rw [f3]
   have eP : rdP F = prt u := by unfold rdP; rw [iv]; exact f4
   have eI : rdI F = 0 := by unfold rdI; rw [iv]; exact f1
   have eG : rdG F = sg := by unfold rdG; rw [eS, eE]; exact hG _ 40 _ hq rfl rfl
   have eR : zb9 F = 0 := by rw [zcG (by rw [hn]) (by omega) eI, eP, eG, hs]
   refine ⟨eR, eG, ?_⟩
   unfold zci zjs
   rw [eR, if_pos rfl, iv, eS, eE, eP, eG, hn]
   unfold ze2 zd2
   rw [iv, if_pos rfl, if_pos rfl, f5, f6]
   simp only [frH, if_true, Int.natCast_add]
   rw [Int.add_assoc]; rfl

end Go.Proofs.Ytnchnjkakddhlaa.L
