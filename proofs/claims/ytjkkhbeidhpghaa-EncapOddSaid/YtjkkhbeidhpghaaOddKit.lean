/- Outer headers that are not quite so. -/
import Derived.Test.YtjkkhbeidhpghaaEncKit
import Derived.Test.YtjkkhbeidhpghaaOutK
set_option autoImplicit false
set_option linter.unusedVariables false
namespace Go.Proofs.Ytjkkhbeidhpghaa.L
open Go Go.Abs
theorem in_odd (v u d6 : Bool) (n m : Int) (d : List UInt8) (hd : d.length ≤ 2000) : ∃ (C : Int) (I : List UInt8), (0 ≤ C ∧ C < 65536) ∧ I.length = frH v + (hdn u + d.length) ∧ inF (bldF v u false false n 0 d 0) v d6 m (frA false) (frA false + frH v + (hdn u + d.length) : Nat) = outF d6 false v m C I ∧ mkO d6 m (prE v) I.length = ipH d6 (prE v) I.length C (dAdrB 150) (dAdrB m) := by
  have hl : (bldG v u false n 0 d).length = hdn u + d.length := segB_length _ _ _ _ _ _
  obtain ⟨C0, h0, h1, h2⟩ := bldF_frm v u false false n 0 d 0 hd
  unfold frm at h1
  rw [hl] at h1 h2
  have hI : (ipH v (prt u) (hdn u + d.length : Nat) C0 (kSrcB n) kDstB ++ bldG v u false n 0 d).length = frH v + (hdn u + d.length) := by rw [List.length_append, ipH_length rfl rfl, hl]
  have hH : frH v ≤ 40 := by cases v <;> decide
  have hh : hdn u ≤ 20 := by cases u <;> decide
  obtain ⟨C1, g0, g1, g2⟩ := mkO_ip d6 v m (L := frH v + (hdn u + d.length)) (by omega)
  refine ⟨C1, _, g0, hI, ?_, by rw [hI]; exact g1⟩
  unfold inF outF
  rw [h1, withR_E]
  have e1 : ((frA false + frH v + (hdn u + d.length) : Nat) : Int) - ((frA false : Nat) : Int) = ((frH v + (hdn u + d.length) : Nat) : Int) := by omega
  have e2 : (((frA false + frH v + (hdn u + d.length) : Nat) : Int)).toNat - (((frA false : Nat) : Int)).toNat = frH v + (hdn u + d.length) := by omega
  have e3 : (((frA false : Nat) : Int)).toNat = (bldE v false).length := by rw [bldE_length]; omega
  rw [e1, e2, e3, List.drop_left, show (if v = true then (41 : Int) else 4) = prE v from rfl, g1, hI, ← List.append_assoc, List.take_append_of_le_length (by rw [hI]; exact Nat.le_refl _), List.take_of_length_le (by rw [hI]; exact Nat.le_refl _), List.append_assoc]
theorem adr4_cut (l : List UInt8) (p : Nat) : adr4 ((l.drop p).take 4) 0 = adr4 l p := by
  unfold adr4; simp only [byt_part (show 0 < 4 by decide), byt_part (show 0 + 1 < 4 by decide), byt_part (show 0 + 2 < 4 by decide), byt_part (show 0 + 3 < 4 by decide)]; rfl
theorem adr16_cut (l : List UInt8) (p : Nat) : adr16 ((l.drop p).take 16) 0 = adr16 l p := by
  have h : ∀ i, i < 16 → byt ((l.drop p).take 16) i = byt l (p + i) := fun i hi => byt_part hi
  unfold adr16
  simp only [Nat.zero_add, h 0 (by decide), h 1 (by decide), h 2 (by decide), h 3 (by decide), h 4 (by decide), h 5 (by decide), h 6 (by decide), h 7 (by decide), h 8 (by decide), h 9 (by decide), h 10 (by decide), h 11 (by decide), h 12 (by decide), h 13 (by decide), h 14 (by decide), h 15 (by decide), Nat.add_zero]
theorem adr4_eq {l l' : List UInt8} {p : Nat} (h : ∀ i, p ≤ i → i < p + 4 → byt l' i = byt l i) : adr4 l' p = adr4 l p := by
  unfold adr4; rw [h p (by omega) (by omega), h (p + 1) (by omega) (by omega), h (p + 2) (by omega) (by omega), h (p + 3) (by omega) (by omega)]
theorem adr16_eq {l l' : List UInt8} {p : Nat} (h : ∀ i, p ≤ i → i < p + 16 → byt l' i = byt l i) : adr16 l' p = adr16 l p := by
  have g : ∀ i, i < 16 → byt l' (p + i) = byt l (p + i) := fun i hi => h _ (by omega) (by omega)
  unfold adr16
  rw [show byt l' p = byt l p from g 0 (by decide)]
  simp only [g 1 (by decide), g 2 (by decide), g 3 (by decide), g 4 (by decide), g 5 (by decide), g 6 (by decide), g 7 (by decide), g 8 (by decide), g 9 (by decide), g 10 (by decide), g 11 (by decide), g 12 (by decide), g 13 (by decide), g 14 (by decide), g 15 (by decide)]
/-- What Out makes of a row that differs. -/
theorem byt_drp (l : List UInt8) (p i : Nat) : byt (l.drop p) i = byt l (p + i) := by simp [byt, List.getD]
theorem byt_app {l r : List UInt8} {i : Nat} (h : i < l.length) : byt (l ++ r) i = byt l i := by simp [byt, List.getD, List.getElem?_append_left h]
theorem o_facts4 (v : Bool) (C : Int) (I : List UInt8) : adr4 (outF false false v 1 C I) 26 = dAdr false 150 ∧ adr4 (outF false false v 1 C I) 30 = dAdr false 1 ∧ byt (outF false false v 1 C I) 23 = prE v ∧ ((outF false false v 1 C I).drop 14).take 20 = ipH false (prE v) I.length C (dAdrB 150) (dAdrB 1) := by
  have b : ∀ m, ((u8i (db3 m)).toNat : Int) = db3 m := fun m => u8i_val (by have := db3_range m; omega)
  refine ⟨?_, ?_, (prE_b v).1, ?_⟩
  · show adrV false ((172 : UInt8).toNat : Int) ((16 : UInt8).toNat : Int) ((0 : UInt8).toNat : Int) ((u8i (db3 150)).toNat : Int) 0 0 0 0 0 0 0 0 0 0 0 0 = _
    rw [b]; rfl
  · show adrV false ((172 : UInt8).toNat : Int) ((16 : UInt8).toNat : Int) ((0 : UInt8).toNat : Int) ((u8i (db3 1)).toNat : Int) 0 0 0 0 0 0 0 0 0 0 0 0 = _
    rw [b]; rfl
  · rfl
theorem o_facts6 (v : Bool) (C : Int) (I : List UInt8) : adr16 (outF true false v 1 C I) 22 = dAdr true 150 ∧ adr16 (outF true false v 1 C I) 38 = dAdr true 1 ∧ byt (outF true false v 1 C I) 20 = prE v ∧ ((outF true false v 1 C I).drop 14).take 40 = ipH true (prE v) I.length C (dAdrB 150) (dAdrB 1) := by
  refine ⟨?_, ?_, (prE_b v).1, rfl⟩
  · rw [dAdr_B]; rfl
  · rw [dAdr_B]; rfl
theorem o_net (d6 v : Bool) (C : Int) (I R : List UInt8) : netR (outF d6 false v 1 C I ++ R) = (14, (if d6 = true then 34525 else 2048), 0) := by
  unfold outF
  rw [List.append_assoc, net_E]; rfl
theorem o_len (d6 v : Bool) (C : Int) (I : List UInt8) : (outF d6 false v 1 C I).length = 14 + (frH d6 + I.length) := by
  unfold outF; rw [List.length_append, List.length_append, bldE_length, ipH_length rfl rfl]; rfl
theorem mk4_word {p n : Int} (h : 0 ≤ n ∧ n ≤ 65515) : word (make4 (dAdr false 150) (dAdr false 1) p n) 2 = 20 + n := by
  have mk := (pkO_make (n := n) (pr := p) (X := dAdrB 150) (Y := dAdrB 1) (S := (dAdrB 150).take 4) (D := (dAdrB 1).take 4) h rfl rfl).2 rfl rfl
  rw [dAdr_B, dAdr_B, mk]
  show ((u8i ((20 + n) / 256)).toNat : Int) * 256 + ((u8i (20 + n)).toNat : Int) = _
  rw [u8i_toNat, u8i_toNat]; omega
theorem mk6_form {p n : Int} (h : 0 ≤ n ∧ n ≤ 65535) : make6 (dAdr true 150) (dAdr true 1) p n = ipH true p n 0 (dAdrB 150) (dAdrB 1) := by
  rw [dAdr_B, dAdr_B]
  unfold make6
  rw [if_pos ⟨rfl, rfl, by omega, by omega⟩, adrB_T, adrB_T]
  rfl
theorem ip6_word {p n : Int} (h : 0 ≤ n ∧ n ≤ 65535) : word (ipH true p n 0 (dAdrB 150) (dAdrB 1)) 4 = n := by
  show ((u8i (n / 256)).toNat : Int) * 256 + ((u8i n).toNat : Int) = _
  rw [u8i_toNat, u8i_toNat]; omega
/-- More behind. -/
theorem odd_more {d6 v : Bool} {C : Int} {I : List UInt8} {k : Nat} (hI : 28 ≤ I.length ∧ I.length ≤ 2000) (hmk : mkO d6 1 (prE v) I.length = ipH d6 (prE v) I.length C (dAdrB 150) (dAdrB 1)) (h1 : 1 ≤ k ∧ k ≤ 20) (h : AHeap) (a : AV) (q : Nat)
    (g : bOk h a = true ∧ bOf h a = outF d6 false v 1 C I ++ List.replicate k 0) (hq : h.length = q) : OutR [a] h (outNo q) [ownB []] := by
  have hl := o_len d6 v C I
  have hb : ∀ i, i < 54 → i < 14 + (frH d6 + I.length) → byt (outF d6 false v 1 C I ++ List.replicate k 0) i = byt (outF d6 false v 1 C I) i := fun i _ hi => byt_app (by omega)
  have hL : (outF d6 false v 1 C I ++ List.replicate k 0).length = 14 + (frH d6 + I.length) + k := by rw [List.length_append, hl, List.length_replicate]
  have hn := o_net d6 v C I (List.replicate k 0)
  cases d6
  · obtain ⟨f1, f2, f3, f4⟩ := o_facts4 v C I
    have hf : frH false = 20 := rfl
    rw [hf] at hL hb hl
    refine OutR.eq4 _ _ 1 h a q g (by omega) hn (by omega) (by rw [adr4_cut, adr4_eq (fun i _ _ => hb i (by omega) (by omega)), f1]) (by rw [adr4_cut, adr4_eq (fun i _ _ => hb i (by omega) (by omega)), f2]) rfl (fun he => ?_) hq
    have e2 : word (make4 (dAdr false 150) (dAdr false 1) (byt (outF false false v 1 C I ++ List.replicate k 0) 23) (((outF false false v 1 C I ++ List.replicate k 0).length - 14 : Nat) - 20)) 2 = word (((outF false false v 1 C I ++ List.replicate k 0).drop 14).take 20) 2 := congrArg (fun l => word l 2) he
    rw [hL, mk4_word (by omega), wd_take (by decide)] at e2
    have e3 : word (List.drop 14 (outF false false v 1 C I ++ List.replicate k 0)) 2 = 20 + I.length := by
      unfold word
      rw [byt_drp, byt_drp, hb 16 (by decide) (by omega), hb 17 (by decide) (by omega)]
      show ((u8i ((20 + (I.length : Int)) / 256)).toNat : Int) * 256 + ((u8i (20 + (I.length : Int))).toNat : Int) = _
      rw [u8i_toNat, u8i_toNat]; omega
    rw [e3] at e2; omega
  · obtain ⟨f1, f2, f3, f4⟩ := o_facts6 v C I
    have hf : frH true = 40 := rfl
    rw [hf] at hL hb hl
    refine OutR.eq6 _ _ 1 h a q g (by omega) hn (by omega) (by rw [adr16_cut, adr16_eq (fun i _ _ => hb i (by omega) (by omega)), f1]) (by rw [adr16_cut, adr16_eq (fun i _ _ => hb i (by omega) (by omega)), f2]) rfl (fun he => ?_) hq
    have e2 : word (make6 (dAdr true 150) (dAdr true 1) (byt (outF true false v 1 C I ++ List.replicate k 0) 20) (((outF true false v 1 C I ++ List.replicate k 0).length - 14 : Nat) - 40)) 4 = word (((outF true false v 1 C I ++ List.replicate k 0).drop 14).take 40) 4 := congrArg (fun l => word l 4) he
    rw [hL, mk6_form (by omega), ip6_word (by omega), wd_take (by decide)] at e2
    have e3 : word (List.drop 14 (outF true false v 1 C I ++ List.replicate k 0)) 4 = I.length := by
      unfold word
      rw [byt_drp, byt_drp, hb 18 (by decide) (by omega), hb 19 (by decide) (by omega)]
      show ((u8i ((I.length : Int) / 256)).toNat : Int) * 256 + ((u8i (I.length : Int)).toNat : Int) = _
      rw [u8i_toNat, u8i_toNat]; omega
    rw [e3] at e2; omega
/-- A bit turned. -/
theorem odd_bit {d6 v : Bool} {C : Int} {I : List UInt8} {k b : Nat} (hI : 28 ≤ I.length ∧ I.length ≤ 2000) (hmk : mkO d6 1 (prE v) I.length = ipH d6 (prE v) I.length C (dAdrB 150) (dAdrB 1)) (hk : k < 8) (hb : b < 8) (h : AHeap) (a : AV) (q : Nat)
    (g : bOk h a = true ∧ bOf h a = (outF d6 false v 1 C I).set (14 + k) (u8i (abits .u8 (· ^^^ ·) (byt (outF d6 false v 1 C I) (14 + k)) (IntKind.u8.wrap (1 * 2 ^ min b 8))))) (hq : h.length = q) : OutR [a] h (outNo q) [ownB []] := by
  have hl := o_len d6 v C I
  have hH : 20 ≤ frH d6 := by cases d6 <;> decide
  obtain ⟨d, e, hd, h2⟩ := flip_byte (byt_range (outF d6 false v 1 C I) (14 + k)) hb
  rw [e] at g
  have hd0 : d ≠ 0 := by
    have h3 : (0 : Int) < 2 ^ b := Int.pow_pos (by decide)
    rcases h2 with h2 | h2 <;> omega
  have hpr := prE_b v
  have hbb : ∀ i, byt ((outF d6 false v 1 C I).set (14 + k) (u8i (byt (outF d6 false v 1 C I) (14 + k) + d))) i = if i = 14 + k then byt (outF d6 false v 1 C I) (14 + k) + d else byt (outF d6 false v 1 C I) i := fun i => by
    rw [byt_set (by omega), u8i_toNat]; split <;> omega
  have hn0 := o_net d6 v C I []
  rw [List.append_nil] at hn0
  generalize hO' : (outF d6 false v 1 C I).set (14 + k) (u8i (byt (outF d6 false v 1 C I) (14 + k) + d)) = O' at *
  have hL : O'.length = 14 + (frH d6 + I.length) := by rw [← hO', List.length_set, hl]
  have hw : ∀ i, i + 1 < 14 → word O' i = word (outF d6 false v 1 C I) i := fun i hi => by unfold word; rw [hbb, hbb, if_neg (by omega), if_neg (by omega)]
  have hn : netR O' = (14, (if d6 = true then 34525 else 2048), 0) := by
    rw [← hn0]
    unfold netR
    rw [hL, hl, hw 12 (by decide)]
    have h12 : word (outF d6 false v 1 C I) 12 ≠ 33024 := by
      intro h12
      unfold netR at hn0
      rw [if_neg (by omega), if_pos h12, if_neg (by omega)] at hn0
      unfold netW at hn0
      split at hn0 <;> simp at hn0
    rw [if_neg h12, if_neg h12]
  cases d6
  · obtain ⟨f1, f2, f3, f4⟩ := o_facts4 v C I
    have hf : frH false = 20 := rfl
    rw [hf] at hL hl
    have hp : byt O' 23 = prE v := by rw [hbb, if_neg (by omega), f3]
    have hM : make4 (dAdr false 150) (dAdr false 1) (byt O' 23) ((O'.length - 14 : Nat) - 20) = ((outF false false v 1 C I).drop 14).take 20 := by
      rw [hp, hL, f4, show (((14 + (20 + I.length) - 14 : Nat) : Int) - 20) = (I.length : Int) by omega]; exact hmk
    refine OutR.eq4 _ _ 1 h a q g (by omega) hn (by omega) (by rw [adr4_cut, adr4_eq (l := outF false false v 1 C I) (fun i _ _ => by rw [hbb, if_neg (by omega)]), f1]) (by rw [adr4_cut, adr4_eq (l := outF false false v 1 C I) (fun i _ _ => by rw [hbb, if_neg (by omega)]), f2]) hM (fun he => ?_) hq
    have e2 : byt (((outF false false v 1 C I).drop 14).take 20) k = byt ((O'.drop 14).take 20) k := by rw [he]
    rw [byt_part (by omega), byt_part (by omega), hbb, if_pos rfl] at e2
    omega
  · obtain ⟨f1, f2, f3, f4⟩ := o_facts6 v C I
    have hf : frH true = 40 := rfl
    rw [hf] at hL hl
    by_cases hk6 : k = 6
    · subst hk6
      have hp : byt O' 20 = prE v + d := by rw [hbb, if_pos rfl]; show byt (outF true false v 1 C I) 20 + d = _; rw [f3]
      have hpd : 0 ≤ prE v + d ∧ prE v + d < 256 := by have := hd; rw [show byt (outF true false v 1 C I) (14 + 6) = prE v from f3] at this; exact this
      have hM : make6 (dAdr true 150) (dAdr true 1) (byt O' 20) ((O'.length - 14 : Nat) - 40) = (O'.drop 14).take 40 := by
        rw [hp, hL, show (((14 + (40 + I.length) - 14 : Nat) : Int) - 40) = (I.length : Int) by omega, mk6_form (by omega), ← hO', show byt (outF true false v 1 C I) (14 + 6) = prE v from f3]
        rfl
      refine OutR.pr6 _ _ 1 h a q g (by omega) hn (by omega) (by rw [adr16_cut, adr16_eq (l := outF true false v 1 C I) (fun i _ _ => by rw [hbb, if_neg (by omega)]), f1]) (by rw [adr16_cut, adr16_eq (l := outF true false v 1 C I) (fun i _ _ => by rw [hbb, if_neg (by omega)]), f2]) hM rfl ?_ hq
      rw [hp]
      have hv : prE v = 4 ∨ prE v = 41 := by cases v; exact .inl rfl; exact .inr rfl
      have hb8 : b = 0 ∨ b = 1 ∨ b = 2 ∨ b = 3 ∨ b = 4 ∨ b = 5 ∨ b = 6 ∨ b = 7 := by omega
      rcases hb8 with rfl | rfl | rfl | rfl | rfl | rfl | rfl | rfl <;> omega
    · have hp : byt O' 20 = prE v := by rw [hbb, if_neg (by omega), f3]
      have hM : make6 (dAdr true 150) (dAdr true 1) (byt O' 20) ((O'.length - 14 : Nat) - 40) = ((outF true false v 1 C I).drop 14).take 40 := by
        rw [hp, hL, f4, show (((14 + (40 + I.length) - 14 : Nat) : Int) - 40) = (I.length : Int) by omega]; exact hmk
      refine OutR.eq6 _ _ 1 h a q g (by omega) hn (by omega) (by rw [adr16_cut, adr16_eq (l := outF true false v 1 C I) (fun i _ _ => by rw [hbb, if_neg (by omega)]), f1]) (by rw [adr16_cut, adr16_eq (l := outF true false v 1 C I) (fun i _ _ => by rw [hbb, if_neg (by omega)]), f2]) hM (fun he => ?_) hq
      have e2 : byt (((outF true false v 1 C I).drop 14).take 40) k = byt ((O'.drop 14).take 40) k := by rw [he]
      rw [byt_part (by omega), byt_part (by omega), hbb, if_pos rfl] at e2
      omega
end Go.Proofs.Ytjkkhbeidhpghaa.L
