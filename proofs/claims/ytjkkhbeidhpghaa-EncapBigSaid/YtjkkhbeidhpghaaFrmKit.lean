/- Frames: what is read of them. -/
import Derived.Test.YtjkkhbeidhpghaaBuildKit
import Derived.Test.YtjkkhbeidhpghaaAddrB
set_option autoImplicit false
set_option linter.unusedVariables false
set_option linter.unusedSimpArgs false
namespace Go.Proofs.Ytjkkhbeidhpghaa.L
open Go Go.Abs

/-- Sixteen bytes that an address of the kind has. -/
def okY (v : Bool) (Y : List UInt8) : Prop := Y.length = 16 ∧ (v = false → Y.drop 4 = Z12)
def ipH (v : Bool) (p L C : Int) (X Y : List UInt8) : List UInt8 := if v = true then [96, 0, 0, 0, u8i (L / 256), u8i L, u8i p, 64] ++ X ++ Y else hdO 0 (20 + L) (u8i p) C (X.take 4) (Y.take 4) []
def frH (v : Bool) : Nat := if v = true then 40 else 20

theorem ipH_length {v : Bool} {p L C : Int} {X Y : List UInt8} (hX : X.length = 16) (hY : Y.length = 16) : (ipH v p L C X Y).length = frH v := by
  cases v <;> simp [ipH, frH, hdO, hX, hY]
theorem prt_b (u : Bool) : 0 ≤ prt u ∧ prt u < 256 ∧ ((u8i (prt u)).toNat : Int) = prt u ∧ (u8i (prt u) = 6 ∨ u8i (prt u) = 17) := by
  cases u
  · exact ⟨by decide, by decide, by decide, .inl (by decide)⟩
  · exact ⟨by decide, by decide, by decide, .inr (by decide)⟩

/-- What is read of a header, and what is behind. -/
theorem ip4_facts {u : Bool} {C : Int} {X Y sg pd : List UInt8} (hX : okY false X) (hY : okY false Y) (hL : sg.length ≤ 65515) (hv : chkI (ipH false (prt u) sg.length C X Y) = 0) :
    r4 (ipH false (prt u) sg.length C X Y ++ (sg ++ pd)) = 0 ∧ s4 (ipH false (prt u) sg.length C X Y ++ (sg ++ pd)) = 20 ∧ word (ipH false (prt u) sg.length C X Y ++ (sg ++ pd)) 2 = 20 + sg.length ∧ byt (ipH false (prt u) sg.length C X Y ++ (sg ++ pd)) 9 = prt u ∧
    adr4 (ipH false (prt u) sg.length C X Y ++ (sg ++ pd)) 12 = .bool false :: bys X ∧ adr4 (ipH false (prt u) sg.length C X Y ++ (sg ++ pd)) 16 = .bool false :: bys Y := by
  have hS : (X.take 4).length = 4 := by simp [hX.1]
  have hD : (Y.take 4).length = 4 := by simp [hY.1]
  have eX : X.take 4 ++ Z12 = X := by rw [← hX.2 rfl, List.take_append_drop]
  have eY : Y.take 4 ++ Z12 = Y := by rw [← hY.2 rfl, List.take_append_drop]
  obtain ⟨_, _, hpt, hp⟩ := prt_b u
  have h := pkO_read (w := 0) (L := 20 + sg.length) (p := u8i (prt u)) (C := C) (S := X.take 4) (D := Y.take 4) (O := []) (d := sg ++ pd) (by omega) hS hD rfl (by simp; omega) hp hv
  have e : pkO 0 (20 + sg.length) (u8i (prt u)) C (X.take 4) (Y.take 4) [] (sg ++ pd) = ipH false (prt u) sg.length C X Y ++ (sg ++ pd) := rfl
  rw [e] at h
  obtain ⟨h1, h2⟩ := h
  generalize ipH false (prt u) sg.length C X Y ++ (sg ++ pd) = q at h1 h2
  have h3 := r4_Y h1
  unfold v4Read at h3
  rw [h2, h1] at h3
  simp only [AV.tup.injEq, List.cons.injEq, AV.agg.injEq, and_true] at h3
  rw [eX, eY, hpt] at h3
  have hl1 : (AV.bool false :: bys X).length = (adr4 q 12).length := by simp [adr4, adrV, hX.1]
  have a1 := List.append_inj h3 (by simp [hX.1, adr4, adrV])
  obtain ⟨a2, a3⟩ := a1
  have a4 := List.append_inj a2 rfl
  obtain ⟨a5, a6⟩ := a4
  simp only [List.cons.injEq, AV.int.injEq, true_and, and_true] at a5
  refine ⟨h1, ?_, a5.2.1.symm, a5.2.2.symm, a6.symm, a3.symm⟩
  have := a5.1; simp at this; exact this.symm
theorem ip6_facts {u : Bool} {C : Int} {X Y sg pd : List UInt8} (hX : okY true X) (hY : okY true Y) (hL : sg.length ≤ 65515) :
    r6 (ipH true (prt u) sg.length C X Y ++ (sg ++ pd)) = 0 ∧ word (ipH true (prt u) sg.length C X Y ++ (sg ++ pd)) 4 = sg.length ∧ byt (ipH true (prt u) sg.length C X Y ++ (sg ++ pd)) 6 = prt u ∧
    adr16 (ipH true (prt u) sg.length C X Y ++ (sg ++ pd)) 8 = .bool true :: bys X ∧ adr16 (ipH true (prt u) sg.length C X Y ++ (sg ++ pd)) 24 = .bool true :: bys Y := by
  obtain ⟨_, _, hpt, hp⟩ := prt_b u
  obtain ⟨x0, x1, x2, x3, x4, x5, x6, x7, x8, x9, x10, x11, x12, x13, x14, x15, rfl⟩ := sixteen_of hX.1
  obtain ⟨y0, y1, y2, y3, y4, y5, y6, y7, y8, y9, y10, y11, y12, y13, y14, y15, rfl⟩ := sixteen_of hY.1
  have b4 : word (ipH true (prt u) sg.length C [x0, x1, x2, x3, x4, x5, x6, x7, x8, x9, x10, x11, x12, x13, x14, x15] [y0, y1, y2, y3, y4, y5, y6, y7, y8, y9, y10, y11, y12, y13, y14, y15] ++ (sg ++ pd)) 4 = sg.length := by
    show ((u8i ((sg.length : Int) / 256)).toNat : Int) * 256 + ((u8i (sg.length : Int)).toNat : Int) = sg.length
    rw [u8i_toNat, u8i_toNat]; omega
  have b6 : byt (ipH true (prt u) sg.length C [x0, x1, x2, x3, x4, x5, x6, x7, x8, x9, x10, x11, x12, x13, x14, x15] [y0, y1, y2, y3, y4, y5, y6, y7, y8, y9, y10, y11, y12, y13, y14, y15] ++ (sg ++ pd)) 6 = prt u := hpt
  have b0 : byt (ipH true (prt u) sg.length C [x0, x1, x2, x3, x4, x5, x6, x7, x8, x9, x10, x11, x12, x13, x14, x15] [y0, y1, y2, y3, y4, y5, y6, y7, y8, y9, y10, y11, y12, y13, y14, y15] ++ (sg ++ pd)) 0 = 96 := by
    show ((96 : UInt8).toNat : Int) = 96; decide
  refine ⟨?_, b4, b6, rfl, rfl⟩
  have hl : (ipH true (prt u) sg.length C [x0, x1, x2, x3, x4, x5, x6, x7, x8, x9, x10, x11, x12, x13, x14, x15] [y0, y1, y2, y3, y4, y5, y6, y7, y8, y9, y10, y11, y12, y13, y14, y15] ++ (sg ++ pd)).length = 40 + sg.length + pd.length := by simp [ipH]; omega
  unfold r6
  rw [hl, b0, b4, b6, if_neg (by omega), if_neg (by decide), if_neg (by omega), if_neg (by cases u <;> decide), if_neg (by cases u <;> decide)]

end Go.Proofs.Ytjkkhbeidhpghaa.L
