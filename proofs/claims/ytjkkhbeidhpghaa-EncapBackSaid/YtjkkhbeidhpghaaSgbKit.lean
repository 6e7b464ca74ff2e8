/- Segments that were built: how they are read, their sums, another port and address. -/
import Derived.Test.YtjkkhbeidhpghaaFrmKit
set_option autoImplicit false
set_option linter.unusedVariables false
set_option linter.unusedSimpArgs false
namespace Go.Proofs.Ytjkkhbeidhpghaa.L
open Go Go.Abs

theorem be2v {x : Int} (h : 0 ≤ x ∧ x < 65536) : ((u8i (x / 256)).toNat : Int) * 256 + ((u8i x).toNat : Int) = x := by
  rw [u8i_toNat, u8i_toNat]; omega
theorem segB_word0 {u : Bool} {sp dp : Int} {fl : UInt8} {C : Int} {d : List UInt8} (h : 0 ≤ sp ∧ sp < 65536) : word (segB u sp dp fl C d) 0 = sp := by
  cases u <;> exact be2v h
theorem segB_word2 {u : Bool} {sp dp : Int} {fl : UInt8} {C : Int} {d : List UInt8} (h : 0 ≤ dp ∧ dp < 65536) : word (segB u sp dp fl C d) 2 = dp := by
  cases u <;> exact be2v h
theorem segR_segB {u : Bool} {sp dp : Int} {fl : UInt8} {C : Int} {d : List UInt8} (hd : d.length ≤ 65000) : segR (prt u) (segB u sp dp fl C d) = 0 := by
  have hl := segB_length u sp dp fl C d
  cases u
  · have b : byt (segB false sp dp fl C d) 12 = 80 := by show ((80 : UInt8).toNat : Int) = 80; decide
    unfold segR
    have hl2 : (segB false sp dp fl C d).length = 20 + d.length := hl
    rw [if_pos (show prt false = 6 from rfl), b, hl2, if_neg (by omega), if_neg (by decide), if_neg (by omega)]
  · have b : word (segB true sp dp fl C d) 4 = 8 + d.length := by
      exact be2v (x := 8 + d.length) (by omega)
    unfold segR
    have hl2 : (segB true sp dp fl C d).length = 8 + d.length := hl
    rw [if_neg (show ¬ prt true = 6 by decide), if_pos (show prt true = 17 from rfl), b, hl2, if_neg (by omega), if_neg (by omega), if_neg (by omega)]
theorem segF_segB {u : Bool} {sp dp : Int} {fl : UInt8} {C : Int} {d : List UInt8} (hd : d.length ≤ 65000) : segF (prt u) (segB u sp dp fl C d) = if u = true then 0 else (fl.toNat : Int) := by
  have h := segR_segB (u := u) (sp := sp) (dp := dp) (fl := fl) (C := C) hd
  cases u
  · unfold segF segZ; rw [if_pos (show prt false = 6 from rfl), if_pos h]; rfl
  · unfold segF; rw [if_neg (show ¬ prt true = 6 by decide)]; rfl


theorem okS (v : Bool) (n : Int) : okY v (kSrcB n) := ⟨rfl, fun _ => rfl⟩
theorem okD (v : Bool) : okY v kDstB := ⟨rfl, fun _ => rfl⟩
theorem bldH_ip (v u : Bool) (n : Int) {L : Nat} (hL : L ≤ 65515) : ∃ C0, (0 ≤ C0 ∧ C0 < 65536) ∧ bldH v u n L = ipH v (prt u) L C0 (kSrcB n) kDstB ∧ (v = false → chkI (ipH false (prt u) L C0 (kSrcB n) kDstB) = 0) := by
  cases v
  · have mk := (pkO_make (n := L) (pr := prt u) (X := kSrcB n) (Y := kDstB) (S := (kSrcB n).take 4) (D := kDstB.take 4) (by omega) rfl rfl).2 rfl rfl
    refine ⟨_, chkI_range _, ?_, fun _ => hdO_make (w := 0) (L := 20 + L) (p := u8i (prt u)) (O := []) (by omega) rfl rfl⟩
    show make4 (kSrc false n) (kDst false) (prt u) L = _
    rw [kSrc_B, kDst_B, mk]; rfl
  · refine ⟨0, by omega, ?_, fun h => by simp at h⟩
    show make6 (kSrc true n) (kDst true) (prt u) L = _
    rw [kSrc_B, kDst_B]
    unfold make6
    rw [if_pos ⟨rfl, rfl, by omega, by omega⟩, adrB_T, adrB_T]
    rfl
theorem bldF_frm (v u tag bare : Bool) (n : Int) (fl : UInt8) (d : List UInt8) (pad : Nat) (hd : d.length ≤ 2000) : ∃ C0, (0 ≤ C0 ∧ C0 < 65536) ∧ bldF v u tag bare n fl d pad = frm v tag (prt u) C0 (kSrcB n) kDstB (bldG v u bare n fl d) (List.replicate pad 0) ∧
    (v = false → chkI (ipH false (prt u) (bldG v u bare n fl d).length C0 (kSrcB n) kDstB) = 0) := by
  have hl : (bldG v u bare n fl d).length = hdn u + d.length := segB_length _ _ _ _ _ _
  obtain ⟨C0, h0, h1, h2⟩ := bldH_ip v u n (L := hdn u + d.length) (by cases u <;> simp [hdn] <;> omega)
  refine ⟨C0, h0, ?_, fun h => by rw [hl]; exact h2 h⟩
  unfold bldF frm
  rw [hl, h1, List.append_assoc, List.append_assoc]
theorem kport_r (n : Int) : 0 ≤ kport n ∧ kport n < 65536 := by have := kport_range n; omega
theorem bldF_read (v u tag bare : Bool) (n : Int) (fl : UInt8) (d : List UInt8) (pad : Nat) (hd : d.length ≤ 2000) (hp : pad ≤ 100) :
    readR (bldF v u tag bare n fl d pad) = 0 ∧ rdG (bldF v u tag bare n fl d pad) = bldG v u bare n fl d ∧
    vRead (bldF v u tag bare n fl d pad) = .tup [.agg (viewOf v (frA tag) (frA tag + frH v : Nat) (frA tag + frH v + (hdn u + d.length) : Nat) (prt u) (kSrc v n) (kDst v) (kport n) 80 (if u = true then 0 else (fl.toNat : Int))), .int .i64 0] := by
  have hl : (bldG v u bare n fl d).length = hdn u + d.length := segB_length _ _ _ _ _ _
  have hh : hdn u ≤ 20 := by cases u <;> decide
  have hA : frA tag ≤ 18 := by cases tag <;> decide
  have hH : frH v ≤ 40 := by cases v <;> decide
  obtain ⟨C0, h0, h1, h2⟩ := bldF_frm v u tag bare n fl d pad hd
  have hl2 : (segB u (kport n) 80 fl (bldC v u bare n fl d) d).length = hdn u + d.length := hl
  have h := frm_read (tag := tag) (pd := List.replicate pad 0) (okS v n) (okD v) (by omega) (by rw [List.length_replicate]; omega) (fun e => by subst e; exact h2 rfl) (segR_segB (u := u) (sp := kport n) (dp := 80) (fl := fl) (C := bldC v u bare n fl d) (d := d) (by omega))
  have hw0 := segB_word0 (u := u) (dp := 80) (fl := fl) (C := bldC v u bare n fl d) (d := d) (kport_r n)
  have hw2 := segB_word2 (u := u) (sp := kport n) (fl := fl) (C := bldC v u bare n fl d) (d := d) (dp := 80) (by omega)
  have hf := segF_segB (u := u) (sp := kport n) (dp := 80) (fl := fl) (C := bldC v u bare n fl d) (d := d) (by omega)
  change _ ∧ _ ∧ vRead (frm v tag (prt u) C0 (kSrcB n) kDstB (bldG v u bare n fl d) (List.replicate pad 0)) = _ at h
  rw [h1]
  obtain ⟨g1, g2, g3⟩ := h
  refine ⟨g1, g2, ?_⟩
  rw [g3, kSrc_B, kDst_B]
  change word (bldG v u bare n fl d) 0 = _ at hw0
  change word (bldG v u bare n fl d) 2 = _ at hw2
  change segF (prt u) (bldG v u bare n fl d) = _ at hf
  change AV.tup [.agg (viewOf v _ _ ((frA tag + frH v + (bldG v u bare n fl d).length : Nat) : Int) _ _ _ (word (bldG v u bare n fl d) 0) (word (bldG v u bare n fl d) 2) (segF (prt u) (bldG v u bare n fl d))), .int .i64 0] = _
  rw [hw0, hw2, hf, hl]
end Go.Proofs.Ytjkkhbeidhpghaa.L
