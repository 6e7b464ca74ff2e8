/- law7's of: the segment of a frame that is built. -/
import Derived.Test.YtmlenlfhciapfaaOf7
import Derived.Test.YtmlenlfhciapfaaSgbKit
set_option autoImplicit false
set_option maxRecDepth 100000
set_option linter.unusedVariables false
set_option linter.unusedSimpArgs false
namespace Go.Proofs.Ytmlenlfhciapfaa.L
open Go Go.Abs

theorem sayRead {h : AHeap} {a v : AV} {l : List UInt8} (g : bOk h a = true ∧ bOf h a = l) (hn : nOf a ≤ 1000000000000) (hr : vRead l = v) : Says eFrR [a] h v [] := ⟨by
  show some (bOk h a && decide (nOf a ≤ 1000000000000), vRead (bOf h a), h) = _
  rw [g.1, g.2, hr, decide_eq_true hn, List.append_nil]; rfl⟩
inductive OfR : List AV → AHeap → AV → AHeap → Prop
  | mk (v u bare : Bool) (n : Int) (d : List UInt8) (h : AHeap) (a : AV) (k : Nat) (g : bOk h a = true ∧ bOf h a = d) (hd : d.length ≤ 2000) (hk : h.length = k) : OfR [.agg (keyV v u n), a, .bool bare] h (slB k (bldG v u bare n 2 d)) [ownB (bldG v u bare n 2 d)]
theorem denP {h1 : AHeap} {n0 m k o n r : Nat} {vs : List AV} {l L : List UInt8} {par : Option Nat} (hk : n0 ≤ k) (hb : h1[k]? = some (.cells vs 1 .own par)) (hv : vs = bys l) (hn : o + (n + r) ≤ l.length) (h0 : n ≠ 0) (hL : (l.drop o).take n = L) : Den h1 n0 m [some k] (.sl (some (k, o)) n r false) (slB m L) [ownB L] := by
  subst hv hL
  have := Den.row (h1 := h1) (n0 := n0) m k o n r false (bys l) 1 par hk (by omega) hb ⟨by simp [capOf], by simp [capOf]; omega⟩ (fun h => absurd h h0) (by simp)
  have e : ((bys l).drop o).take (n * 1) = bys ((l.drop o).take n) := by simp
  rw [e] at this
  have e2 : ((l.drop o).take n).length = n := by simp; omega
  unfold slB ownB
  rw [e2]; exact this
theorem sOf (l : List (Nat × AV × AHeap)) : SoundE Try.prog 19 (entF (eRel OfR l)) := by
  refine relR_sound (fun args h v new hR => ?_) l
  cases hR with
  | mk v u bare n d _ a k g hd hk =>
  subst hk
  have hf : AV.free (.agg (keyV v u n)) = true := by cases v <;> rfl
  obtain ⟨gb, rfl⟩ := g
  refine ⟨[.agg (keyV v u n), slB 0 (bOf h a), .bool bare], [farB (bOf h a)], .cons _ _ _ _ _ _ _ (.flat _ _ hf) (.cons _ _ _ _ _ _ _ (bOk_canon gb 0) (.cons _ _ _ _ _ _ _ (.flat _ _ rfl) (.nil _))), ?_⟩
  generalize bOf h a = d at hd
  obtain ⟨h1, h2, h3⟩ := bldF_read v u false bare n 2 d 0 hd (by omega)
  obtain ⟨C0, hC, hF, _⟩ := bldF_frm v u false bare n 2 d 0 hd
  have hfl := frm_length (v := v) (tag := false) (p := prt u) (C := C0) (X := kSrcB n) (Y := kDstB) (sg := bldG v u bare n 2 d) (pd := List.replicate 0 0) rfl rfl
  rw [← hF] at hfl
  have hgl : (bldG v u bare n 2 d).length = hdn u + d.length := segB_length _ _ _ _ _ _
  have hh : 8 ≤ hdn u ∧ hdn u ≤ 20 := by cases u <;> decide
  have hH : frH v ≤ 40 := by cases v <;> decide
  have hA : frA false = 14 := rfl
  rw [hgl, hA] at hfl
  simp only [List.length_replicate, Nat.add_zero] at hfl
  refine ⟨(AV.sl (some (2, 0 + (intV (some (AV.int IntKind.i64 ((14 + frH v : Nat) : Int)))).toNat * 1)) ((intV (some (AV.int IntKind.i64 ((14 + frH v + (hdn u + d.length) : Nat) : Int)))).toNat - (intV (some (AV.int IntKind.i64 ((14 + frH v : Nat) : Int)))).toNat) (roomOf (bldF v u false bare n 2 d 0).length 0 (intV (some (AV.int IntKind.i64 ((14 + frH v : Nat) : Int)))).toNat (some (intV (some (AV.int IntKind.i64 ((14 + frH v + (hdn u + d.length) : Nat) : Int))))).isNone (intV (some (AV.int IntKind.i64 ((14 + frH v + (hdn u + d.length) : Nat) : Int)))).toNat false) false), (hOf4 v u bare n ((14 : Nat) : Int) ((14 + frH v : Nat) : Int) ((14 + frH v + (hdn u + d.length) : Nat) : Int) (kport n) 80 (if u = true then 0 else (((2 : UInt8)).toNat : Int)) d (bldF v u false bare n 2 d 0)), Runs.ofT0 (tOfOk (bldF v u false bare n 2 d 0) (.tup [.agg (viewOf v (14 : Nat) (14 + frH v : Nat) (14 + frH v + (hdn u + d.length) : Nat) (prt u) (kSrc v n) (kDst v) (kport n) 80 (if u = true then 0 else (((2 : UInt8)).toNat : Int))), .int .i64 0])) (F := 100) (n := 4) (pr := []) ?_, [some 2], ?_, ksOk1 _⟩
  · refine (nfOf v u bare n (14 : Nat) (14 + frH v : Nat) (14 + frH v + (hdn u + d.length) : Nat) (kport n) 80 (if u = true then 0 else (((2 : UInt8)).toNat : Int)) d (bldF v u false bare n 2 d 0) _).trans ?_
    refine (if_pos (cdec_true.2 (BuildR0.mk v u bare n 2 d 0 _ _ _ (bOk_row rfl rfl rfl) hd (by omega) rfl))).trans ?_
    refine (if_pos (cdec_true.2 (sayRead (bOk_row rfl rfl rfl) (by show (bldF v u false bare n 2 d 0).length ≤ _; omega) h3))).trans ?_
    refine (if_pos ?_).trans ?_
    · simp only [intV, capOf]; omega
    refine (if_pos ?_).trans ?_
    · simp only [intV]; omega
    rfl
  · have e1 : 0 + (((14 + frH v : Nat) : Int)).toNat * 1 = 14 + frH v := by omega
    have e2 : (((14 + frH v + (hdn u + d.length) : Nat) : Int)).toNat - (((14 + frH v : Nat) : Int)).toNat = hdn u + d.length := by omega
    refine denP (l := bldF v u false bare n 2 d 0) (by show 1 ≤ 2; decide) rfl rfl ?_ ?_ ?_
    · simp only [intV, roomOf, Option.isNone]; omega
    · simp only [intV]; omega
    · simp only [intV]
      rw [e1, e2, ← h2]
      unfold rdG ipQ
      obtain ⟨g1, g2, g3⟩ := bldF_read v u false bare n 2 d 0 hd (by omega)
      have hn := net_E v false (ipH v (prt u) (bldG v u bare n 2 d).length C0 (kSrcB n) kDstB ++ (bldG v u bare n 2 d ++ List.replicate 0 0))
      rw [show bldE v false ++ (ipH v (prt u) (bldG v u bare n 2 d).length C0 (kSrcB n) kDstB ++ (bldG v u bare n 2 d ++ List.replicate 0 0)) = bldF v u false bare n 2 d 0 from hF.symm] at hn
      have hrs : rdS (bldF v u false bare n 2 d 0) = frH v ∧ rdE (bldF v u false bare n 2 d 0) = frH v + (hdn u + d.length : Nat) := by
        have hv := g3
        unfold vRead viewL at hv
        rw [g1, if_pos rfl, hn] at hv
        unfold viewOf at hv
        simp only [List.cons_append, List.nil_append, AV.tup.injEq, List.cons.injEq, AV.agg.injEq, AV.int.injEq, true_and, and_true] at hv
        have a1 := hv.2.2.1
        have a2 := hv.2.2.2.1
        simp only [Int.natCast_add] at a1 a2
        refine ⟨?_, ?_⟩
        · have : ((frA false : Nat) : Int) = 14 := rfl
          omega
        · have : ((frA false : Nat) : Int) = 14 := rfl
          rw [Int.natCast_add]; omega
      rw [hn, hrs.1, hrs.2, List.drop_drop]
      congr 1
      · omega

end Go.Proofs.Ytmlenlfhciapfaa.L
