/- Frames in frames. -/
import Derived.Test.YtjkkhbeidhpghaaEncIn
import Derived.Test.YtjkkhbeidhpghaaCutKit
set_option autoImplicit false
set_option linter.unusedVariables false
namespace Go.Proofs.Ytjkkhbeidhpghaa.L
open Go Go.Abs
def prE (v : Bool) : Int := if v = true then 41 else 4
theorem withR_E (v d6 tag : Bool) (R : List UInt8) : withR (bldE v tag ++ R) (kdOf d6) = bldE d6 tag := by
  unfold withR
  rw [net_E, if_pos rfl]
  cases v <;> cases d6 <;> cases tag <;> rfl
theorem mkO_ip (d6 v : Bool) (m : Int) {L : Nat} (hL : L ≤ 65000) : ∃ C0, (0 ≤ C0 ∧ C0 < 65536) ∧ mkO d6 m (prE v) L = ipH d6 (prE v) L C0 (dAdrB 150) (dAdrB m) ∧ (d6 = false → chkI (ipH false (prE v) L C0 (dAdrB 150) (dAdrB m)) = 0) := by
  cases d6
  · have mk := (pkO_make (n := L) (pr := prE v) (X := dAdrB 150) (Y := dAdrB m) (S := (dAdrB 150).take 4) (D := (dAdrB m).take 4) (by omega) rfl rfl).2 rfl rfl
    refine ⟨_, chkI_range _, ?_, fun _ => hdO_make (w := 0) (L := 20 + L) (p := u8i (prE v)) (O := []) (by omega) rfl rfl⟩
    show make4 (dAdr false 150) (dAdr false m) (prE v) L = _
    rw [dAdr_B, dAdr_B, mk]; rfl
  · refine ⟨0, by omega, ?_, fun h => by simp at h⟩
    show make6 (dAdr true 150) (dAdr true m) (prE v) L = _
    rw [dAdr_B, dAdr_B]
    unfold make6
    rw [if_pos ⟨rfl, rfl, by omega, by omega⟩, adrB_T, adrB_T]
    rfl
theorem prE_b (v : Bool) : ((u8i (prE v)).toNat : Int) = prE v ∧ prE v ≠ 6 ∧ prE v ≠ 17 ∧ prE v ≠ 44 := by cases v <;> decide
theorem ip4_other {v : Bool} {C : Int} {X Y I : List UInt8} (hX : X.length = 16) (hY : Y.length = 16) (hL : I.length ≤ 65000) (hv : chkI (ipH false (prE v) I.length C X Y) = 0) : r4 (ipH false (prE v) I.length C X Y ++ I) = 6 := by
  have hS : (X.take 4).length = 4 := by simp [hX]
  have hD : (Y.take 4).length = 4 := by simp [hY]
  obtain ⟨hp1, hp2, hp3, _⟩ := prE_b v
  have hlen : (ipH false (prE v) I.length C X Y ++ I).length = 20 + I.length := by rw [List.length_append, ipH_length hX hY]; rfl
  have b0 : byt (ipH false (prE v) I.length C X Y ++ I) 0 = 69 := by
    show ((u8i (69 + (0 : Nat))).toNat : Int) = _
    rw [u8i_toNat]; omega
  have b2 : word (ipH false (prE v) I.length C X Y ++ I) 2 = 20 + I.length := by
    show ((u8i ((20 + (I.length : Int)) / 256)).toNat : Int) * 256 + ((u8i (20 + (I.length : Int))).toNat : Int) = _
    rw [u8i_toNat, u8i_toNat]; omega
  have b6 : word (ipH false (prE v) I.length C X Y ++ I) 6 = 16384 := by
    show ((64 : UInt8).toNat : Int) * 256 + ((0 : UInt8).toNat : Int) = 16384
    decide
  have b9 : byt (ipH false (prE v) I.length C X Y ++ I) 9 = prE v := hp1
  have hs : s4 (ipH false (prE v) I.length C X Y ++ I) = 20 := by unfold s4; rw [b0]; decide
  have ht : (ipH false (prE v) I.length C X Y ++ I).take (s4 (ipH false (prE v) I.length C X Y ++ I)).toNat = ipH false (prE v) I.length C X Y := by
    rw [hs]; exact List.take_left' (ipH_length hX hY)
  unfold r4
  rw [ht, hv, b0, b2, b6, b9, hlen, hs, if_neg (by omega), if_neg (by omega), if_neg (by omega), if_neg (by omega), if_neg (by omega), if_neg (by omega), if_neg (by omega), if_pos (by omega)]
theorem ip6_other {v : Bool} {C : Int} {X Y I : List UInt8} (hX : X.length = 16) (hY : Y.length = 16) (hL : I.length ≤ 65000) : r6 (ipH true (prE v) I.length C X Y ++ I) = 6 := by
  obtain ⟨hp1, hp2, hp3, hp4⟩ := prE_b v
  have hlen : (ipH true (prE v) I.length C X Y ++ I).length = 40 + I.length := by rw [List.length_append, ipH_length hX hY]; rfl
  have b0 : byt (ipH true (prE v) I.length C X Y ++ I) 0 = 96 := by
    show ((96 : UInt8).toNat : Int) = 96; decide
  have b4 : word (ipH true (prE v) I.length C X Y ++ I) 4 = I.length := by
    show ((u8i ((I.length : Int) / 256)).toNat : Int) * 256 + ((u8i (I.length : Int)).toNat : Int) = _
    rw [u8i_toNat, u8i_toNat]; omega
  have b6 : byt (ipH true (prE v) I.length C X Y ++ I) 6 = prE v := hp1
  unfold r6
  rw [hlen, b0, b4, b6, if_neg (by omega), if_neg (by decide), if_neg (by omega), if_neg (by omega), if_pos ⟨by omega, by omega⟩]
/-- The outer frame. -/
def outF (d6 tag v : Bool) (m C : Int) (I : List UInt8) : List UInt8 := bldE d6 tag ++ (ipH d6 (prE v) I.length C (dAdrB 150) (dAdrB m) ++ I)
theorem outF_read {d6 tag v : Bool} {m C : Int} {I : List UInt8} (hL : I.length ≤ 65000) (hv : d6 = false → chkI (ipH false (prE v) I.length C (dAdrB 150) (dAdrB m)) = 0) : readR (outF d6 tag v m C I) = 6 := by
  have hn := net_E d6 tag (ipH d6 (prE v) I.length C (dAdrB 150) (dAdrB m) ++ I)
  have hq := ipQ_E d6 tag (ipH d6 (prE v) I.length C (dAdrB 150) (dAdrB m) ++ I)
  have hl : (outF d6 tag v m C I).length = frA tag + (frH d6 + I.length) := by unfold outF; rw [List.length_append, List.length_append, bldE_length, ipH_length rfl rfl]
  have hA : frA tag ≤ 18 := by cases tag <;> decide
  have hH : frH d6 ≤ 40 := by cases d6 <;> decide
  change netR (outF d6 tag v m C I) = _ at hn
  change ipQ (outF d6 tag v m C I) = _ at hq
  refine readR_ip (by rw [hn]) (by omega) ?_ (by decide)
  unfold rdI isV6
  rw [hn, hq]
  cases d6
  · exact ip4_other (X := dAdrB 150) (Y := dAdrB m) rfl rfl hL (hv rfl)
  · exact ip6_other (X := dAdrB 150) (Y := dAdrB m) rfl rfl hL
/-- What a built frame is put in. -/
theorem inF_bld (v u tag bare d6 : Bool) (n m : Int) (fl : UInt8) (d : List UInt8) (pad : Nat) (hd : d.length ≤ 2000) (hp : pad ≤ 100) : ∃ C0 C1 : Int, (0 ≤ C0 ∧ C0 < 65536) ∧ (v = false → chkI (ipH false (prt u) (hdn u + d.length : Nat) C0 (kSrcB n) kDstB) = 0) ∧ (d6 = false → chkI (ipH false (prE v) (ipH v (prt u) (hdn u + d.length : Nat) C0 (kSrcB n) kDstB ++ bldG v u bare n fl d).length C1 (dAdrB 150) (dAdrB m)) = 0) ∧ (0 ≤ C1 ∧ C1 < 65536) ∧
    bldF v u tag bare n fl d pad = bldE v tag ++ (ipH v (prt u) (hdn u + d.length : Nat) C0 (kSrcB n) kDstB ++ (bldG v u bare n fl d ++ List.replicate pad 0)) ∧
    inF (bldF v u tag bare n fl d pad) v d6 m (frA tag) (frA tag + frH v + (hdn u + d.length) : Nat) = outF d6 tag v m C1 (ipH v (prt u) (hdn u + d.length : Nat) C0 (kSrcB n) kDstB ++ bldG v u bare n fl d) ∧ (ipH v (prt u) (hdn u + d.length : Nat) C0 (kSrcB n) kDstB ++ bldG v u bare n fl d).length = frH v + (hdn u + d.length) := by
  have hl : (bldG v u bare n fl d).length = hdn u + d.length := segB_length _ _ _ _ _ _
  obtain ⟨C0, h0, h1, h2⟩ := bldF_frm v u tag bare n fl d pad hd
  unfold frm at h1
  rw [hl] at h1 h2
  have hI : (ipH v (prt u) (hdn u + d.length : Nat) C0 (kSrcB n) kDstB ++ bldG v u bare n fl d).length = frH v + (hdn u + d.length) := by rw [List.length_append, ipH_length rfl rfl, hl]
  have hH : frH v ≤ 40 := by cases v <;> decide
  have hh : hdn u ≤ 20 := by cases u <;> decide
  obtain ⟨C1, g0, g1, g2⟩ := mkO_ip d6 v m (L := frH v + (hdn u + d.length)) (by omega)
  refine ⟨C0, C1, h0, fun e => h2 e, fun e => by rw [hI]; exact g2 e, g0, h1, ?_, hI⟩
  unfold inF outF
  rw [h1, withR_E]
  have e1 : ((frA tag + frH v + (hdn u + d.length) : Nat) : Int) - ((frA tag : Nat) : Int) = ((frH v + (hdn u + d.length) : Nat) : Int) := by omega
  have e2 : (((frA tag + frH v + (hdn u + d.length) : Nat) : Int)).toNat - (((frA tag : Nat) : Int)).toNat = frH v + (hdn u + d.length) := by omega
  have e3 : (((frA tag : Nat) : Int)).toNat = (bldE v tag).length := by rw [bldE_length]; omega
  rw [e1, e2, e3, List.drop_left, show (if v = true then (41 : Int) else 4) = prE v from rfl, g1, hI, ← List.append_assoc, List.take_append_of_le_length (by rw [hI]; exact Nat.le_refl _), List.take_of_length_le (by rw [hI]; exact Nat.le_refl _), List.append_assoc]
end Go.Proofs.Ytjkkhbeidhpghaa.L
