/- encap.Out's contract for what was put in. -/
import Derived.Test.YtjkkhbeidhpghaaOutY
set_option autoImplicit false
set_option linter.unusedVariables false
set_option maxRecDepth 100000
namespace Go.Proofs.Ytjkkhbeidhpghaa.L
open Go Go.Abs
inductive OutYR : List AV → AHeap → AV → AHeap → Prop
  | mk (d6 tag v : Bool) (m C : Int) (I : List UInt8) (h : AHeap) (a : AV) (k : Nat) (g : bOk h a = true ∧ bOf h a = outF d6 tag v m C I) (hI : 1 ≤ I.length ∧ I.length ≤ 50000) (hmk : mkO d6 m (prE v) I.length = ipH d6 (prE v) I.length C (dAdrB 150) (dAdrB m)) (hi0 : byt I 0 / 16 = if v = true then 6 else 4) (hk : h.length = k) :
      OutYR [a] h (.tup [slB k (bldE v tag ++ I), .agg (dAdr d6 m), .bool true]) [ownB (bldE v tag ++ I)]
theorem byt_dr (l : List UInt8) (p i : Nat) : byt (l.drop p) i = byt l (p + i) := by simp [byt, List.getD]
theorem a4_cut (l : List UInt8) (p : Nat) : adr4 ((l.drop p).take 4) 0 = adr4 l p := by
  unfold adr4; simp only [byt_part (show 0 < 4 by decide), byt_part (show 0 + 1 < 4 by decide), byt_part (show 0 + 2 < 4 by decide), byt_part (show 0 + 3 < 4 by decide)]; rfl
theorem a16_cut (l : List UInt8) (p : Nat) : adr16 ((l.drop p).take 16) 0 = adr16 l p := by
  have h : ∀ i, i < 16 → byt ((l.drop p).take 16) i = byt l (p + i) := fun i hi => byt_part hi
  unfold adr16
  simp only [Nat.zero_add, h 0 (by decide), h 1 (by decide), h 2 (by decide), h 3 (by decide), h 4 (by decide), h 5 (by decide), h 6 (by decide), h 7 (by decide), h 8 (by decide), h 9 (by decide), h 10 (by decide), h 11 (by decide), h 12 (by decide), h 13 (by decide), h 14 (by decide), h 15 (by decide), Nat.add_zero]
theorem q_facts4 (v : Bool) (m C : Int) (I : List UInt8) : adr4 (ipH false (prE v) I.length C (dAdrB 150) (dAdrB m) ++ I) 12 = dAdr false 150 ∧ adr4 (ipH false (prE v) I.length C (dAdrB 150) (dAdrB m) ++ I) 16 = dAdr false m ∧ byt (ipH false (prE v) I.length C (dAdrB 150) (dAdrB m) ++ I) 9 = prE v := by
  have b : ∀ m, ((u8i (db3 m)).toNat : Int) = db3 m := fun m => u8i_val (by have := db3_range m; omega)
  refine ⟨?_, ?_, (prE_b v).1⟩
  · show adrV false ((172 : UInt8).toNat : Int) ((16 : UInt8).toNat : Int) ((0 : UInt8).toNat : Int) ((u8i (db3 150)).toNat : Int) 0 0 0 0 0 0 0 0 0 0 0 0 = _
    rw [b]; rfl
  · show adrV false ((172 : UInt8).toNat : Int) ((16 : UInt8).toNat : Int) ((0 : UInt8).toNat : Int) ((u8i (db3 m)).toNat : Int) 0 0 0 0 0 0 0 0 0 0 0 0 = _
    rw [b]; rfl
theorem q_facts6 (v : Bool) (m C : Int) (I : List UInt8) : adr16 (ipH true (prE v) I.length C (dAdrB 150) (dAdrB m) ++ I) 8 = dAdr true 150 ∧ adr16 (ipH true (prE v) I.length C (dAdrB 150) (dAdrB m) ++ I) 24 = dAdr true m ∧ byt (ipH true (prE v) I.length C (dAdrB 150) (dAdrB m) ++ I) 6 = prE v := by
  refine ⟨?_, ?_, (prE_b v).1⟩
  · rw [dAdr_B]; rfl
  · rw [dAdr_B]; rfl
theorem sOutY (L : List (Nat × AV × AHeap)) : SoundE Try.prog 13 (entF (eRel OutYR L)) := by
  refine relR_sound (fun args h v new hR => ?_) L
  cases hR with
  | mk d6 tag v m C I _ a k g hI hmk hi0 hk =>
  subst hk
  obtain ⟨gb, hgb⟩ := g
  have hdr : (outF d6 tag v m C I).drop (frA tag) = ipH d6 (prE v) I.length C (dAdrB 150) (dAdrB m) ++ I := by unfold outF; exact List.drop_left' (bldE_length _ _)
  have hol : (outF d6 tag v m C I).length = frA tag + (frH d6 + I.length) := by unfold outF; rw [List.length_append, List.length_append, bldE_length, ipH_length rfl rfl]
  have hnet : netR (outF d6 tag v m C I) = ((frA tag : Int), (if d6 = true then 34525 else 2048), 0) := by unfold outF; exact net_E _ _ _
  have hW0 : withR (outF d6 tag v m C I) (kdOf v) = bldE v tag := by unfold outF; exact withR_E _ _ _ _
  have hA : 14 ≤ frA tag ∧ frA tag ≤ 18 := by cases tag <;> decide
  have hH : 20 ≤ frH d6 ∧ frH d6 ≤ 40 := by cases d6 <;> decide
  have hbl := bldE_length v tag
  obtain ⟨w, W, hW⟩ : ∃ w W, bldE v tag = w :: W := by cases v <;> cases tag <;> exact ⟨_, _, rfl⟩
  rw [hW] at hW0 hbl
  have hfa : (((frA tag : Nat) : Int)).toNat = frA tag := by omega
  have hdI : (outF d6 tag v m C I).drop (frA tag + frH d6) = I := by
    rw [← List.drop_drop, hdr]; exact List.drop_left' (ipH_length rfl rfl)
  have hb : ∀ i, byt (outF d6 tag v m C I) (frA tag + i) = byt (ipH d6 (prE v) I.length C (dAdrB 150) (dAdrB m) ++ I) i := fun i => by rw [← byt_dr, hdr]
  have h0' : byt (outF d6 tag v m C I) (frA tag + frH d6) = byt I 0 := by
    have := byt_dr (outF d6 tag v m C I) (frA tag + frH d6) 0
    rw [hdI] at this; exact this.symm
  have ht : ((outF d6 tag v m C I).drop (frA tag)).take (frH d6) = ipH d6 (prE v) I.length C (dAdrB 150) (dAdrB m) := by rw [hdr]; exact List.take_left' (ipH_length rfl rfl)
  have hcut : ∀ o, (outF d6 tag v m C I).drop (frA tag + o) = (ipH d6 (prE v) I.length C (dAdrB 150) (dAdrB m) ++ I).drop o := fun o => by rw [← List.drop_drop, hdr]
  have key : ∃ v1 h1, Runs Try.prog 13 [slB 0 (outF d6 tag v m C I)] [farB (outF d6 tag v m C I)] v1 h1 ∧ ∃ ks, ∀ K, Den h1 1 K ks v1 (.tup [slB K ((w :: W) ++ I), .agg (dAdr d6 m), .bool true]) [ownB ((w :: W) ++ I)] ∧ KsOk ks := by
    cases d6
    · obtain ⟨f1, f2, f3⟩ := q_facts4 v m C I
      have hf : frH false = 20 := rfl
      rw [hf] at hol h0' ht hdI hH
      have hM : make4 (dAdr false 150) (dAdr false m) (prE v) (((outF false tag v m C I).length - (((frA tag : Nat) : Int)).toNat : Nat) - 20) = ipH false (prE v) I.length C (dAdrB 150) (dAdrB m) := by
        rw [hol, hfa, show (((frA tag + (20 + I.length) - frA tag : Nat) : Int) - 20) = (I.length : Int) by omega]; exact hmk
      have hx : adr4 (((outF false tag v m C I).drop ((((frA tag : Nat) : Int)).toNat + 12)).take 4) 0 = dAdr false 150 := by rw [hfa, hcut, a4_cut, f1]
      have hy : adr4 (((outF false tag v m C I).drop ((((frA tag : Nat) : Int)).toNat + 16)).take 4) 0 = dAdr false m := by rw [hfa, hcut, a4_cut, f2]
      have hp : byt (outF false tag v m C I) ((((frA tag : Nat) : Int)).toNat + 9) = prE v := by rw [hfa, hb, f3]
      have hn : netV .u16 (netR (outF false tag v m C I)) = .tup [.int .i64 (frA tag : Int), .int .u16 2048, .int .i64 0] := by rw [hnet]; rfl
      have h0 : byt (outF false tag v m C I) ((((frA tag : Nat) : Int)).toNat + 20) / 16 = if v = true then 6 else 4 := by rw [hfa, h0', hi0]
      cases v
      · exact oyRunFF _ _ W _ w (frA tag : Int) m (by omega) (by omega) (by omega) hn hx hy hp hM (by rw [hfa, ht]) h0 hW0 (by rw [hbl, hfa]) (by rw [hfa, hdI])
      · exact oyRunFT _ _ W _ w (frA tag : Int) m (by omega) (by omega) (by omega) hn hx hy hp hM (by rw [hfa, ht]) h0 hW0 (by rw [hbl, hfa]) (by rw [hfa, hdI])
    · obtain ⟨f1, f2, f3⟩ := q_facts6 v m C I
      have hf : frH true = 40 := rfl
      rw [hf] at hol h0' ht hdI hH
      have hM : make6 (dAdr true 150) (dAdr true m) (prE v) (((outF true tag v m C I).length - (((frA tag : Nat) : Int)).toNat : Nat) - 40) = ipH true (prE v) I.length C (dAdrB 150) (dAdrB m) := by
        rw [hol, hfa, show (((frA tag + (40 + I.length) - frA tag : Nat) : Int) - 40) = (I.length : Int) by omega]; exact hmk
      have hx : adr16 (((outF true tag v m C I).drop ((((frA tag : Nat) : Int)).toNat + 8)).take 16) 0 = dAdr true 150 := by rw [hfa, hcut, a16_cut, f1]
      have hy : adr16 (((outF true tag v m C I).drop ((((frA tag : Nat) : Int)).toNat + 24)).take 16) 0 = dAdr true m := by rw [hfa, hcut, a16_cut, f2]
      have hp : byt (outF true tag v m C I) ((((frA tag : Nat) : Int)).toNat + 6) = prE v := by rw [hfa, hb, f3]
      have hn : netV .u16 (netR (outF true tag v m C I)) = .tup [.int .i64 (frA tag : Int), .int .u16 34525, .int .i64 0] := by rw [hnet]; rfl
      have h0 : byt (outF true tag v m C I) ((((frA tag : Nat) : Int)).toNat + 40) / 16 = if v = true then 6 else 4 := by rw [hfa, h0', hi0]
      cases v
      · exact oyRunTF _ _ W _ w (frA tag : Int) m (by omega) (by omega) (by omega) hn hx hy hp hM (by rw [hfa, ht]) h0 hW0 (by rw [hbl, hfa]) (by rw [hfa, hdI])
      · exact oyRunTT _ _ W _ w (frA tag : Int) m (by omega) (by omega) (by omega) hn hx hy hp hM (by rw [hfa, ht]) h0 hW0 (by rw [hbl, hfa]) (by rw [hfa, hdI])
  rw [hW]
  obtain ⟨v1, h1, hr, ks, hd⟩ := key
  rw [← hgb] at hr
  exact ⟨[slB 0 (bOf h a)], [farB (bOf h a)], .cons _ _ _ _ _ _ _ (bOk_canon gb 0) (.nil _), v1, h1, hr, ks, (hd _).1, (hd 0).2⟩
end Go.Proofs.Ytjkkhbeidhpghaa.L
