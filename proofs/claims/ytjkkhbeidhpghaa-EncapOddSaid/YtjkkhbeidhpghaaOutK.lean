/- encap.Out of what was not put in. -/
import Derived.Test.YtjkkhbeidhpghaaOutN
set_option autoImplicit false
set_option maxRecDepth 100000
set_option linter.unusedVariables false
set_option linter.unusedSimpArgs false
namespace Go.Proofs.Ytjkkhbeidhpghaa.L
open Go Go.Abs

def outNo (k : Nat) : AV := .tup [slB k [], .agg adr0, .bool false]
inductive OutR : List AV → AHeap → AV → AHeap → Prop
  | eq4 (O M : List UInt8) (m : Int) (h : AHeap) (a : AV) (k : Nat) (g : bOk h a = true ∧ bOf h a = O) (hl : O.length ≤ 60000) (hnet : netR O = (14, 2048, 0)) (hlen : 34 ≤ O.length) (hx : adr4 ((O.drop 26).take 4) 0 = dAdr false 150) (hy : adr4 ((O.drop 30).take 4) 0 = dAdr false m)
      (hM : make4 (dAdr false 150) (dAdr false m) (byt O 23) ((O.length - 14 : Nat) - 20) = M) (hne : M ≠ (O.drop 14).take 20) (hk : h.length = k) : OutR [a] h (outNo k) [ownB []]
  | eq6 (O M : List UInt8) (m : Int) (h : AHeap) (a : AV) (k : Nat) (g : bOk h a = true ∧ bOf h a = O) (hl : O.length ≤ 60000) (hnet : netR O = (14, 34525, 0)) (hlen : 54 ≤ O.length) (hx : adr16 ((O.drop 22).take 16) 0 = dAdr true 150) (hy : adr16 ((O.drop 38).take 16) 0 = dAdr true m)
      (hM : make6 (dAdr true 150) (dAdr true m) (byt O 20) ((O.length - 14 : Nat) - 40) = M) (hne : M ≠ (O.drop 14).take 40) (hk : h.length = k) : OutR [a] h (outNo k) [ownB []]
  | pr6 (O M : List UInt8) (m : Int) (h : AHeap) (a : AV) (k : Nat) (g : bOk h a = true ∧ bOf h a = O) (hl : O.length ≤ 60000) (hnet : netR O = (14, 34525, 0)) (hlen : 54 < O.length) (hx : adr16 ((O.drop 22).take 16) 0 = dAdr true 150) (hy : adr16 ((O.drop 38).take 16) 0 = dAdr true m)
      (hM : make6 (dAdr true 150) (dAdr true m) (byt O 20) ((O.length - 14 : Nat) - 40) = M) (he : M = (O.drop 14).take 40) (hp : byt O 20 ≠ 4 ∧ byt O 20 ≠ 41) (hk : h.length = k) : OutR [a] h (outNo k) [ownB []]
theorem dAdr_wf' (v : Bool) (m : Int) : adrWf (dAdr v m) = true := by rw [dAdr_B]; exact adrB_wf rfl
theorem byt_r (l : List UInt8) (i : Nat) : 0 ≤ byt l i ∧ byt l i < 256 := by have := byt_range l i; omega
theorem runOutNF (O M : List UInt8) (m : Int) (hl : O.length ≤ 60000) (hnet : netR O = (14, 2048, 0)) (hlen : 34 ≤ O.length) (hx : adr4 ((O.drop 26).take 4) 0 = dAdr false 150) (hy : adr4 ((O.drop 30).take 4) 0 = dAdr false m)
    (hM : make4 (dAdr false 150) (dAdr false m) (byt O 23) ((O.length - 14 : Nat) - 20) = M) (hne : M ≠ (O.drop 14).take 20) : ∃ h1, Runs Try.prog 13 [slB 0 O] [farB O] (AV.tup [AV.sl none 0 0 true, AV.agg [AV.bool false, AV.int IntKind.u8 0, AV.int IntKind.u8 0, AV.int IntKind.u8 0, AV.int IntKind.u8 0, AV.int IntKind.u8 0, AV.int IntKind.u8 0, AV.int IntKind.u8 0, AV.int IntKind.u8 0, AV.int IntKind.u8 0, AV.int IntKind.u8 0, AV.int IntKind.u8 0, AV.int IntKind.u8 0, AV.int IntKind.u8 0, AV.int IntKind.u8 0, AV.int IntKind.u8 0, AV.int IntKind.u8 0], AV.bool false]) h1 := by
  have hn : netV .u16 (netR O) = .tup [.int .i64 14, .int .u16 2048, .int .i64 0] := by rw [hnet]; rfl
  have h23 : intV (bys O)[23]? = byt O 23 := by simp
  have hw : IntKind.i64.wrap (((O.length - 14 : Nat) : Int) - 20) = (O.length - 14 : Nat) - 20 := wrapI64 (by omega)
  have hmk : makes4 (dAdr false 150) (dAdr false m) ((O.length - 14 : Nat) - 20) := by rw [dAdr_B, dAdr_B]; exact ⟨rfl, rfl, by omega, by omega⟩
  refine ⟨(hOutNF6 O M m), Runs.ofT0 (tOutOk (.tup [.int .i64 14, .int .u16 2048, .int .i64 0]) (.tup [.agg (dAdr false 150), .int .i64 0]) (.tup [.agg (dAdr false m), .int .i64 0]) M false) (F := 100) (n := 6) (pr := [(17, .bool false)]) ?_⟩
  refine (nfOutNF O M m _).trans ?_
  refine (if_pos (cdec_true.2 (sayNet (bOk_row rfl rfl rfl) (by show O.length ≤ _; omega) hn))).trans ?_
  refine (if_pos ⟨by decide, by omega⟩).trans ?_
  refine (if_neg (by rw [decide_eq_true_eq]; omega)).trans ?_
  refine (if_pos ⟨by decide, by simp only [capOf_f]; omega⟩).trans ?_
  refine (if_pos (cdec_true.2 (sayFrom (bOk_cut (l := O) (L := (O.drop 26).take 4) rfl rfl (by omega) rfl) (.inr ⟨rfl, hx⟩)))).trans ?_
  refine (if_pos ⟨by decide, by simp only [capOf_f]; omega⟩).trans ?_
  refine (if_pos (cdec_true.2 (sayFrom (bOk_cut (l := O) (L := (O.drop 30).take 4) rfl rfl (by omega) rfl) (.inr ⟨rfl, hy⟩)))).trans ?_
  refine (if_pos ⟨by decide, by omega⟩).trans ?_
  refine (if_pos (by simp; omega)).trans ?_
  refine (if_pos (cdec_true.2 (say4Mk (cs := dAdr false 150) (ds := dAdr false m) (dAdr_wf' _ _) (dAdr_wf' _ _) (by rw [h23]; exact byt_r O 23) (by rw [hw]; exact hmk) (by rw [hw, h23]; exact hM) rfl))).trans ?_
  refine (if_pos ⟨by decide, by simp only [capOf_f]; omega⟩).trans ?_
  refine (if_pos (cdec_true.2 (sayEq (l := M) (m := (O.drop 14).take 20) (bOk_row rfl rfl rfl) (bOk_cut (l := O) rfl rfl (by omega) rfl) (decide_eq_false hne)))).trans ?_
  refine (if_pos (AV.beq_self _)).trans ?_
  rfl

theorem runOutNT (O M : List UInt8) (m : Int) (hl : O.length ≤ 60000) (hnet : netR O = (14, 34525, 0)) (hlen : 54 ≤ O.length) (hx : adr16 ((O.drop 22).take 16) 0 = dAdr true 150) (hy : adr16 ((O.drop 38).take 16) 0 = dAdr true m)
    (hM : make6 (dAdr true 150) (dAdr true m) (byt O 20) ((O.length - 14 : Nat) - 40) = M) (hne : M ≠ (O.drop 14).take 40) : ∃ h1, Runs Try.prog 13 [slB 0 O] [farB O] (AV.tup [AV.sl none 0 0 true, AV.agg [AV.bool false, AV.int IntKind.u8 0, AV.int IntKind.u8 0, AV.int IntKind.u8 0, AV.int IntKind.u8 0, AV.int IntKind.u8 0, AV.int IntKind.u8 0, AV.int IntKind.u8 0, AV.int IntKind.u8 0, AV.int IntKind.u8 0, AV.int IntKind.u8 0, AV.int IntKind.u8 0, AV.int IntKind.u8 0, AV.int IntKind.u8 0, AV.int IntKind.u8 0, AV.int IntKind.u8 0, AV.int IntKind.u8 0], AV.bool false]) h1 := by
  have hn : netV .u16 (netR O) = .tup [.int .i64 14, .int .u16 34525, .int .i64 0] := by rw [hnet]; rfl
  have h20 : intV (bys O)[20]? = byt O 20 := by simp
  have hw : IntKind.i64.wrap (((O.length - 14 : Nat) : Int) - 40) = (O.length - 14 : Nat) - 40 := wrapI64 (by omega)
  have hmk : makes6 (dAdr true 150) (dAdr true m) ((O.length - 14 : Nat) - 40) := by rw [dAdr_B, dAdr_B]; exact ⟨rfl, rfl, by omega, by omega⟩
  refine ⟨(hOutNT6 O M m), Runs.ofT0 (tOutOk (.tup [.int .i64 14, .int .u16 34525, .int .i64 0]) (.tup [.agg (dAdr true 150), .int .i64 0]) (.tup [.agg (dAdr true m), .int .i64 0]) M false) (F := 100) (n := 6) (pr := [(17, .bool false)]) ?_⟩
  refine (nfOutNT O M m _).trans ?_
  refine (if_pos (cdec_true.2 (sayNet (bOk_row rfl rfl rfl) (by show O.length ≤ _; omega) hn))).trans ?_
  refine (if_pos ⟨by decide, by omega⟩).trans ?_
  refine (if_neg (by rw [decide_eq_true_eq]; omega)).trans ?_
  refine (if_pos ⟨by decide, by simp only [capOf_f]; omega⟩).trans ?_
  refine (if_pos (cdec_true.2 (sayFrom (bOk_cut (l := O) (L := (O.drop 22).take 16) rfl rfl (by omega) rfl) (.inl ⟨rfl, hx⟩)))).trans ?_
  refine (if_pos ⟨by decide, by simp only [capOf_f]; omega⟩).trans ?_
  refine (if_pos (cdec_true.2 (sayFrom (bOk_cut (l := O) (L := (O.drop 38).take 16) rfl rfl (by omega) rfl) (.inl ⟨rfl, hy⟩)))).trans ?_
  refine (if_pos ⟨by decide, by omega⟩).trans ?_
  refine (if_pos (by simp; omega)).trans ?_
  refine (if_pos (cdec_true.2 (say6Mk (cs := dAdr true 150) (ds := dAdr true m) (dAdr_wf' _ _) (dAdr_wf' _ _) (by rw [h20]; exact byt_r O 20) (by rw [hw]; exact hmk) (by rw [hw, h20]; exact hM) rfl))).trans ?_
  refine (if_pos ⟨by decide, by simp only [capOf_f]; omega⟩).trans ?_
  refine (if_pos (cdec_true.2 (sayEq (l := M) (m := (O.drop 14).take 40) (bOk_row rfl rfl rfl) (bOk_cut (l := O) rfl rfl (by omega) rfl) (decide_eq_false hne)))).trans ?_
  refine (if_pos (AV.beq_self _)).trans ?_
  rfl

theorem runOutP (O M : List UInt8) (m : Int) (hl : O.length ≤ 60000) (hnet : netR O = (14, 34525, 0)) (hlen : 54 < O.length) (hx : adr16 ((O.drop 22).take 16) 0 = dAdr true 150) (hy : adr16 ((O.drop 38).take 16) 0 = dAdr true m)
    (hM : make6 (dAdr true 150) (dAdr true m) (byt O 20) ((O.length - 14 : Nat) - 40) = M) (he : M = (O.drop 14).take 40) (hp : byt O 20 ≠ 4 ∧ byt O 20 ≠ 41) : ∃ h1, Runs Try.prog 13 [slB 0 O] [farB O] (AV.tup [AV.sl none 0 0 true, AV.agg [AV.bool false, AV.int IntKind.u8 0, AV.int IntKind.u8 0, AV.int IntKind.u8 0, AV.int IntKind.u8 0, AV.int IntKind.u8 0, AV.int IntKind.u8 0, AV.int IntKind.u8 0, AV.int IntKind.u8 0, AV.int IntKind.u8 0, AV.int IntKind.u8 0, AV.int IntKind.u8 0, AV.int IntKind.u8 0, AV.int IntKind.u8 0, AV.int IntKind.u8 0, AV.int IntKind.u8 0, AV.int IntKind.u8 0], AV.bool false]) h1 := by
  have hn : netV .u16 (netR O) = .tup [.int .i64 14, .int .u16 34525, .int .i64 0] := by rw [hnet]; rfl
  have h20 : intV (bys O)[20]? = byt O 20 := by simp
  have hw : IntKind.i64.wrap (((O.length - 14 : Nat) : Int) - 40) = (O.length - 14 : Nat) - 40 := wrapI64 (by omega)
  have hmk : makes6 (dAdr true 150) (dAdr true m) ((O.length - 14 : Nat) - 40) := by rw [dAdr_B, dAdr_B]; exact ⟨rfl, rfl, by omega, by omega⟩
  refine ⟨(hOutP6 O M m), Runs.ofT0 (tOutOk (.tup [.int .i64 14, .int .u16 34525, .int .i64 0]) (.tup [.agg (dAdr true 150), .int .i64 0]) (.tup [.agg (dAdr true m), .int .i64 0]) M true) (F := 100) (n := 6) (pr := [(17, .bool false), (37, .bool false), (49, .bool false), (59, .bool false)]) ?_⟩
  refine (nfOutP O M m _).trans ?_
  refine (if_pos (cdec_true.2 (sayNet (bOk_row rfl rfl rfl) (by show O.length ≤ _; omega) hn))).trans ?_
  refine (if_pos ⟨by decide, by omega⟩).trans ?_
  refine (if_neg (by rw [decide_eq_true_eq]; omega)).trans ?_
  refine (if_pos ⟨by decide, by simp only [capOf_f]; omega⟩).trans ?_
  refine (if_pos (cdec_true.2 (sayFrom (bOk_cut (l := O) (L := (O.drop 22).take 16) rfl rfl (by omega) rfl) (.inl ⟨rfl, hx⟩)))).trans ?_
  refine (if_pos ⟨by decide, by simp only [capOf_f]; omega⟩).trans ?_
  refine (if_pos (cdec_true.2 (sayFrom (bOk_cut (l := O) (L := (O.drop 38).take 16) rfl rfl (by omega) rfl) (.inl ⟨rfl, hy⟩)))).trans ?_
  refine (if_pos ⟨by decide, by omega⟩).trans ?_
  refine (if_pos (by simp; omega)).trans ?_
  refine (if_pos (cdec_true.2 (say6Mk (cs := dAdr true 150) (ds := dAdr true m) (dAdr_wf' _ _) (dAdr_wf' _ _) (by rw [h20]; exact byt_r O 20) (by rw [hw]; exact hmk) (by rw [hw, h20]; exact hM) rfl))).trans ?_
  refine (if_pos ⟨by decide, by simp only [capOf_f]; omega⟩).trans ?_
  refine (if_pos (cdec_true.2 (sayEq (l := M) (m := (O.drop 14).take 40) (bOk_row rfl rfl rfl) (bOk_cut (l := O) rfl rfl (by omega) rfl) (decide_eq_true he)))).trans ?_
  refine (if_pos (AV.beq_self _)).trans ?_
  refine (if_pos (by simp; omega)).trans ?_
  refine (if_pos ⟨by decide, by omega⟩).trans ?_
  refine (if_pos (by rw [h20]; simp [hp.1])).trans ?_
  refine (if_pos (by rw [h20]; simp [hp.2])).trans ?_
  rfl

theorem sOutN (L : List (Nat × AV × AHeap)) : SoundE Try.prog 13 (entF (eRel OutR L)) := by
  refine relR_sound (fun args h v new hR => ?_) L
  have key : ∀ (O : List UInt8) (a : AV) (w : AV), bOk h a = true ∧ bOf h a = O → (∃ h1, Runs Try.prog 13 [slB 0 O] [farB O] w h1) → w = .tup [.sl none 0 0 true, .agg adr0, .bool false] → ∃ args1 h1, Canons h 0 [a] args1 h1 ∧ ∃ v1 h1', Runs Try.prog 13 args1 h1 v1 h1' ∧ ∃ ks, Den h1' h1.length h.length ks v1 (outNo h.length) [ownB []] ∧ KsOk ks := by
    intro O a w g hr hw
    obtain ⟨gb, rfl⟩ := g
    obtain ⟨h1, hr⟩ := hr
    subst hw
    exact ⟨[slB 0 (bOf h a)], [farB (bOf h a)], .cons _ _ _ _ _ _ _ (bOk_canon gb 0) (.nil _), _, h1, hr, [none], .tup _ _ _ _ _ (.cons _ [none] [] _ _ _ _ [ownB []] [] (.nil _ _ 1) (.cons _ [] [] _ _ _ _ [] [] (.flat _ _ rfl) (.cons _ [] [] _ _ _ _ [] [] (.flat _ _ rfl) (.nil _)))), ksOk1 _⟩
  cases hR with
  | eq4 O M m _ a k g hl hnet hlen hx hy hM hne hk => subst hk; exact key O a _ g (runOutNF O M m hl hnet hlen hx hy hM hne) rfl
  | eq6 O M m _ a k g hl hnet hlen hx hy hM hne hk => subst hk; exact key O a _ g (runOutNT O M m hl hnet hlen hx hy hM hne) rfl
  | pr6 O M m _ a k g hl hnet hlen hx hy hM he hp hk => subst hk; exact key O a _ g (runOutP O M m hl hnet hlen hx hy hM he hp) rfl

end Go.Proofs.Ytjkkhbeidhpghaa.L
