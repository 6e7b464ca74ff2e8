/- frame's Read. -/
import Derived.Test.YtnchnjkakddhlaaPReadN
set_option autoImplicit false
set_option maxRecDepth 100000
set_option linter.unusedVariables false
set_option linter.unusedSimpArgs false
namespace Go.Proofs.Ytnchnjkakddhlaa.L
open Go Go.Abs

theorem zdU {h : zaa} {a v : AV} {l : List UInt8} (g : bOk h a = true ∧ bOf h a = l) (hn : nOf a ≤ 70368744177664) (hr : zgh .u16 (za7 l) = v) : Says zlb [a] h v [] := ⟨by
 show some (bOk h a && decide (nOf a ≤ 70368744177664), zgh .u16 (za7 (bOf h a)), h) = _
 rw [g.1, g.2, hr, decide_eq_true hn, List.append_nil]; rfl⟩
theorem zBz {h : zaa} {a v : AV} {l : List UInt8} (g : bOk h a = true ∧ bOf h a = l) (hn : nOf a ≤ 1000000000000) (hr : zbu l = v) : Says zma [a] h v [] := ⟨by
 show some (bOk h a && decide (nOf a ≤ 1000000000000), zbu (bOf h a), h) = _
 rw [g.1, g.2, hr, decide_eq_true hn, List.append_nil]; rfl⟩
theorem zBb {h : zaa} {a v : AV} {l : List UInt8} (g : bOk h a = true ∧ bOf h a = l) (hn : nOf a ≤ 1000000000000) (hr : zd1 l = v) : Says zv9 [a] h v [] := ⟨by
 show some (bOk h a && decide (nOf a ≤ 1000000000000), zd1 (bOf h a), h) = _
 rw [g.1, g.2, hr, decide_eq_true hn, List.append_nil]; rfl⟩

theorem zs9 (l : List UInt8) (hl : l.length ≤ 1000000000000) : ∃ h1, Runs Try.prog 18 [slB 0 l] [zaC l] (zci l) h1 := by
 have hl2 : l.length ≤ 70368744177664 := by omega
 by_cases hn : (za7 l).2.2 = 0
 case neg =>
  have hne := hn
  have e0 : zgh .u16 (za7 l) = .tup [.int .i64 0, .int .u16 0, .int .i64 (za7 l).2.2] := by
   rcases zhI l with ⟨h, _⟩ | ⟨h1, h2, _⟩
   · exact absurd h hn
   · unfold zgh; rw [h1, h2]
  rw [zdg (zmI rfl hn) hn]
  refine Runs.valT0 (zdK 0 0 (za7 l).2.2 .nilFn .nilFn .nilFn) (F := 100) (n := 4) (pr := [(13, .bool true)]) ?_
  refine (zvX l 0 0 0 0 0 0 0 (za7 l).2.2 0 0 0 0 0 0 0 0 0 0 0 0 0 0 0 0 0 0 0 0 0 0 0 0 0 0 0 0 0 0 0 0 _).trans ?_
  refine (if_pos (zab.2 (zdU (zam rfl rfl rfl) hl2 e0))).trans ?_
  refine (if_pos (by simp [zad, hne])).trans ?_
  rfl
 obtain ⟨A, hA, hA2, hAl, hkd⟩ := zrU hn
 have hq : (ipQ l).length = l.length - A := by unfold ipQ; rw [hA]; simp
 by_cases hlen : 65535 < l.length
 case pos =>
  rw [zdg (zkG hn hlen) (by decide)]
  rcases hkd with hk | hk
  · have e0 : zgh .u16 (za7 l) = .tup [.int .i64 (A : Int), .int .u16 2048, .int .i64 0] := by unfold zgh; rw [hA, hk, hn]
    refine Runs.valT0 (zdK (A : Int) 2048 0 .nilFn .nilFn .nilFn) (F := 100) (n := 4) (pr := [(13, .bool false), (19, .bool true)]) ?_
    refine (ztK l (A : Int) 0 0 0 0 0 0 0 0 0 0 0 0 0 0 0 0 0 0 0 0 0 0 0 0 0 0 0 0 0 0 0 0 0 0 0 0 0 0 0 _).trans ?_
    refine (if_pos (zab.2 (zdU (zam rfl rfl rfl) hl2 e0))).trans ?_
    refine (if_pos (decide_eq_true (by omega))).trans ?_
    rfl
  · have e0 : zgh .u16 (za7 l) = .tup [.int .i64 (A : Int), .int .u16 34525, .int .i64 0] := by unfold zgh; rw [hA, hk, hn]
    refine Runs.valT0 (zdK (A : Int) 34525 0 .nilFn .nilFn .nilFn) (F := 100) (n := 4) (pr := [(13, .bool false), (19, .bool true)]) ?_
    refine (zrb l (A : Int) 0 0 0 0 0 0 0 0 0 0 0 0 0 0 0 0 0 0 0 0 0 0 0 0 0 0 0 0 0 0 0 0 0 0 0 0 0 0 0 _).trans ?_
    refine (if_pos (zab.2 (zdU (zam rfl rfl rfl) hl2 e0))).trans ?_
    refine (if_pos (decide_eq_true (by omega))).trans ?_
    rfl
 rcases hkd with hk | hk
 · have e0 : zgh .u16 (za7 l) = .tup [.int .i64 (A : Int), .int .u16 2048, .int .i64 0] := by unfold zgh; rw [hA, hk, hn]
   have hv : zfm l = false := by unfold zfm; rw [hk]; rfl
   have hI : rdI l = r4 (ipQ l) := by unfold rdI; rw [hv]; rfl
   have hS : rdS l = (s4 (ipQ l)) := by unfold rdS; rw [hv]; rfl
   have hE : rdE l = (zan (ipQ l) 2) := by unfold rdE; rw [hv]; rfl
   have hP : rdP l = (byt (ipQ l) 9) := by unfold rdP; rw [hv]; rfl
   by_cases hr : r4 (ipQ l) = 0
   case neg =>
    have hne := hr
    rw [zdg (zis hn hlen hI hr) hr]
    refine Runs.valT0 (zdK (A : Int) 2048 0 (.tup [.agg ([.int .i64 0, .int .i64 0, .int .u8 0] ++ ziB ++ ziB), .int .i64 (r4 (ipQ l))]) .nilFn .nilFn) (F := 100) (n := 4) (pr := [(13, .bool false), (19, .bool false), (27, .bool true)]) ?_
    refine (zsm l (A : Int) 0 0 0 0 0 0 (r4 (ipQ l)) 0 0 0 0 0 0 0 0 0 0 0 0 0 0 0 0 0 0 0 0 0 0 0 0 0 0 0 0 0 0 0 0 _).trans ?_
    refine (if_pos (zab.2 (zdU (zam rfl rfl rfl) hl2 e0))).trans ?_
    refine (if_pos (decide_eq_false (by omega))).trans ?_
    refine (if_pos (zab.2 (zdU (zam rfl rfl rfl) hl2 e0))).trans ?_
    refine (if_pos (by first | exact True.intro | rfl | omega | (simp; done) | (simp; omega) | (simp [zai]; done) | (simp [zai]; omega))).trans ?_
    refine (if_pos (zab.2 (zBz (l := ipQ l) (zbf rfl rfl (by omega) (zfo hA)) (by simp <;> omega) (zBF rfl hr)))).trans ?_
    refine (if_pos (by simp [zad, hne])).trans ?_
    rfl
   obtain ⟨b0, b1, b2, b3, b5, _⟩ := zfB hr
   have hsp := zau (rdG l) 0
   have hdp := zau (rdG l) 2
   have wE : IntKind.i64.wrap ((A : Int) + (zan (ipQ l) 2)) = (A : Int) + (zan (ipQ l) 2) := zao (by omega)
   have wS : IntKind.i64.wrap ((A : Int) + (s4 (ipQ l))) = (A : Int) + (s4 (ipQ l)) := zao (by omega)
   have hG := zmU hA hS hE (by omega) (by omega)
   by_cases hs : zbW (byt (ipQ l) 9) (rdG l) = 0
   case neg =>
    have hne := hs
    have hrr : zb9 l = zbW (byt (ipQ l) 9) (rdG l) := by rw [zcG hn hlen (hI.trans hr), hP]
    rw [zdg hrr hs]
    refine Runs.valT0 (zdK (A : Int) 2048 0 (.tup [.agg ([.int .i64 (s4 (ipQ l)), .int .i64 (zan (ipQ l) 2), .int .u8 (byt (ipQ l) 9)] ++ zbx false (byt (ipQ l) 12) (byt (ipQ l) 13) (byt (ipQ l) 14) (byt (ipQ l) 15) 0 0 0 0 0 0 0 0 0 0 0 0 ++ zbx false (byt (ipQ l) 16) (byt (ipQ l) 17) (byt (ipQ l) 18) (byt (ipQ l) 19) 0 0 0 0 0 0 0 0 0 0 0 0), .int .i64 0]) .nilFn (.tup [.agg [.int .u16 0, .int .u16 0, .int .u8 0], .int .i64 (zbW (byt (ipQ l) 9) (rdG l))])) (F := 100) (n := 4) (pr := [(13, .bool false), (19, .bool false), (27, .bool false), (44, .bool true)]) ?_
    refine (zq2 l (A : Int) (s4 (ipQ l)) (zan (ipQ l) 2) (byt (ipQ l) 9) 0 0 0 (zbW (byt (ipQ l) 9) (rdG l)) (byt (ipQ l) 12) (byt (ipQ l) 13) (byt (ipQ l) 14) (byt (ipQ l) 15) 0 0 0 0 0 0 0 0 0 0 0 0 (byt (ipQ l) 16) (byt (ipQ l) 17) (byt (ipQ l) 18) (byt (ipQ l) 19) 0 0 0 0 0 0 0 0 0 0 0 0 _).trans ?_
    refine (if_pos (zab.2 (zdU (zam rfl rfl rfl) hl2 e0))).trans ?_
    refine (if_pos (decide_eq_false (by omega))).trans ?_
    refine (if_pos (zab.2 (zdU (zam rfl rfl rfl) hl2 e0))).trans ?_
    refine (if_pos (by first | exact True.intro | rfl | omega | (simp; done) | (simp; omega) | (simp [zai]; done) | (simp [zai]; omega))).trans ?_
    refine (if_pos (zab.2 (zBz (l := ipQ l) (zbf rfl rfl (by omega) (zfo hA)) (by simp <;> omega) (zAh hr)))).trans ?_
    refine (if_pos (AV.beq_self _)).trans ?_
    refine (if_pos (by simp only [zad, wE, wS, zaz]; omega)).trans ?_
    refine (if_pos (by simp only [zad, wE, wS, zaz]; omega)).trans ?_
    refine (if_pos (zab.2 (zej (l := rdG l) (zbf rfl rfl (by simp only [zad, wE, wS]; omega) (by simp only [zad, wE, wS]; exact hG)) (by simp only [zby, zad, wE, wS]; omega) (zeG rfl hs).1))).trans ?_
    refine (if_pos (by simp [zad, hne])).trans ?_
    rfl
   have hrr : zb9 l = 0 := by rw [zcG hn hlen (hI.trans hr), hP, hs]
   have hvr : zci l = .tup [.agg (zaO false A ((A : Int) + (s4 (ipQ l))) ((A : Int) + (zan (ipQ l) 2)) (byt (ipQ l) 9) (zhr (ipQ l) 12) (zhr (ipQ l) 16) (zan (rdG l) 0) (zan (rdG l) 2) (zca (byt (ipQ l) 9) (rdG l))), .int .i64 0] := by
    unfold zci zjs
    rw [hrr, if_pos rfl, hA, hS, hE, hP, hv]; unfold ze2 zd2; rw [hv]; rfl
   rw [hvr]
   refine Runs.valT0 (zdK (A : Int) 2048 0 (.tup [.agg ([.int .i64 (s4 (ipQ l)), .int .i64 (zan (ipQ l) 2), .int .u8 (byt (ipQ l) 9)] ++ zbx false (byt (ipQ l) 12) (byt (ipQ l) 13) (byt (ipQ l) 14) (byt (ipQ l) 15) 0 0 0 0 0 0 0 0 0 0 0 0 ++ zbx false (byt (ipQ l) 16) (byt (ipQ l) 17) (byt (ipQ l) 18) (byt (ipQ l) 19) 0 0 0 0 0 0 0 0 0 0 0 0), .int .i64 0]) .nilFn (.tup [.agg [.int .u16 (zan (rdG l) 0), .int .u16 (zan (rdG l) 2), .int .u8 (zca (byt (ipQ l) 9) (rdG l))], .int .i64 0])) (F := 100) (n := 4) (pr := [(13, .bool false), (19, .bool false), (27, .bool false), (44, .bool false)]) ?_
   refine (ztU l (A : Int) (s4 (ipQ l)) (zan (ipQ l) 2) (byt (ipQ l) 9) (zan (rdG l) 0) (zan (rdG l) 2) (zca (byt (ipQ l) 9) (rdG l)) 0 (byt (ipQ l) 12) (byt (ipQ l) 13) (byt (ipQ l) 14) (byt (ipQ l) 15) 0 0 0 0 0 0 0 0 0 0 0 0 (byt (ipQ l) 16) (byt (ipQ l) 17) (byt (ipQ l) 18) (byt (ipQ l) 19) 0 0 0 0 0 0 0 0 0 0 0 0 _).trans ?_
   refine (if_pos (zab.2 (zdU (zam rfl rfl rfl) hl2 e0))).trans ?_
   refine (if_pos (decide_eq_false (by omega))).trans ?_
   refine (if_pos (zab.2 (zdU (zam rfl rfl rfl) hl2 e0))).trans ?_
   refine (if_pos (by first | exact True.intro | rfl | omega | (simp; done) | (simp; omega) | (simp [zai]; done) | (simp [zai]; omega))).trans ?_
   refine (if_pos (zab.2 (zBz (l := ipQ l) (zbf rfl rfl (by omega) (zfo hA)) (by simp <;> omega) (zAh hr)))).trans ?_
   refine (if_pos (AV.beq_self _)).trans ?_
   refine (if_pos (by simp only [zad, wE, wS, zaz]; omega)).trans ?_
   refine (if_pos (by simp only [zad, wE, wS, zaz]; omega)).trans ?_
   refine (if_pos (zab.2 (zej (l := rdG l) (zbf rfl rfl (by simp only [zad, wE, wS]; omega) (by simp only [zad, wE, wS]; exact hG)) (by simp only [zby, zad, wE, wS]; omega) (zbP hs).1))).trans ?_
   refine (if_pos (AV.beq_self _)).trans ?_
   refine (if_pos (AV.beq_self _)).trans ?_
   refine (if_pos (AV.beq_self _)).trans ?_
   simp only [zad, wE, wS]
   rfl
 · have e0 : zgh .u16 (za7 l) = .tup [.int .i64 (A : Int), .int .u16 34525, .int .i64 0] := by unfold zgh; rw [hA, hk, hn]
   have hv : zfm l = true := by unfold zfm; rw [hk]; rfl
   have hI : rdI l = r6 (ipQ l) := by unfold rdI; rw [hv]; rfl
   have hS : rdS l = 40 := by unfold rdS; rw [hv]; rfl
   have hE : rdE l = (40 + zan (ipQ l) 4) := by unfold rdE; rw [hv]; rfl
   have hP : rdP l = (byt (ipQ l) 6) := by unfold rdP; rw [hv]; rfl
   by_cases hr : r6 (ipQ l) = 0
   case neg =>
    have hne := hr
    rw [zdg (zis hn hlen hI hr) hr]
    refine Runs.valT0 (zdK (A : Int) 34525 0 .nilFn (.tup [.agg ([.int .i64 0, .int .u8 0] ++ ziB ++ ziB), .int .i64 (r6 (ipQ l))]) .nilFn) (F := 100) (n := 4) (pr := [(13, .bool false), (19, .bool false), (27, .bool true)]) ?_
    refine (zq1 l (A : Int) 0 0 0 0 0 0 (r6 (ipQ l)) 0 0 0 0 0 0 0 0 0 0 0 0 0 0 0 0 0 0 0 0 0 0 0 0 0 0 0 0 0 0 0 0 _).trans ?_
    refine (if_pos (zab.2 (zdU (zam rfl rfl rfl) hl2 e0))).trans ?_
    refine (if_pos (decide_eq_false (by omega))).trans ?_
    refine (if_pos (zab.2 (zdU (zam rfl rfl rfl) hl2 e0))).trans ?_
    refine (if_pos (by first | exact True.intro | rfl | omega | (simp; done) | (simp; omega) | (simp [zai]; done) | (simp [zai]; omega))).trans ?_
    refine (if_pos (zab.2 (zBb (l := ipQ l) (zbf rfl rfl (by omega) (zfo hA)) (by simp <;> omega) (zBJ rfl hr).1))).trans ?_
    refine (if_pos (by simp [zad, hne])).trans ?_
    rfl
   obtain ⟨b0, b3, b5⟩ := zfR hr
   have b1 : (20 : Int) ≤ 40 := by decide
   have b2 : (40 : Int) ≤ 40 + zan (ipQ l) 4 := by have := zau (ipQ l) 4; omega
   have hsp := zau (rdG l) 0
   have hdp := zau (rdG l) 2
   have wE : IntKind.i64.wrap ((A : Int) + (40 + zan (ipQ l) 4)) = (A : Int) + (40 + zan (ipQ l) 4) := zao (by omega)
   have wS : IntKind.i64.wrap ((A : Int) + 40) = (A : Int) + 40 := zao (by omega)
   have hG := zmU hA hS hE (by omega) (by omega)
   by_cases hs : zbW (byt (ipQ l) 6) (rdG l) = 0
   case neg =>
    have hne := hs
    have hrr : zb9 l = zbW (byt (ipQ l) 6) (rdG l) := by rw [zcG hn hlen (hI.trans hr), hP]
    rw [zdg hrr hs]
    refine Runs.valT0 (zdK (A : Int) 34525 0 .nilFn (.tup [.agg ([.int .i64 (40 + zan (ipQ l) 4), .int .u8 (byt (ipQ l) 6)] ++ zbx true (byt (ipQ l) 8) (byt (ipQ l) 9) (byt (ipQ l) 10) (byt (ipQ l) 11) (byt (ipQ l) 12) (byt (ipQ l) 13) (byt (ipQ l) 14) (byt (ipQ l) 15) (byt (ipQ l) 16) (byt (ipQ l) 17) (byt (ipQ l) 18) (byt (ipQ l) 19) (byt (ipQ l) 20) (byt (ipQ l) 21) (byt (ipQ l) 22) (byt (ipQ l) 23) ++ zbx true (byt (ipQ l) 24) (byt (ipQ l) 25) (byt (ipQ l) 26) (byt (ipQ l) 27) (byt (ipQ l) 28) (byt (ipQ l) 29) (byt (ipQ l) 30) (byt (ipQ l) 31) (byt (ipQ l) 32) (byt (ipQ l) 33) (byt (ipQ l) 34) (byt (ipQ l) 35) (byt (ipQ l) 36) (byt (ipQ l) 37) (byt (ipQ l) 38) (byt (ipQ l) 39)), .int .i64 0]) (.tup [.agg [.int .u16 0, .int .u16 0, .int .u8 0], .int .i64 (zbW (byt (ipQ l) 6) (rdG l))])) (F := 100) (n := 4) (pr := [(13, .bool false), (19, .bool false), (27, .bool false), (44, .bool true)]) ?_
    refine (zrZ l (A : Int) 40 (40 + zan (ipQ l) 4) (byt (ipQ l) 6) 0 0 0 (zbW (byt (ipQ l) 6) (rdG l)) (byt (ipQ l) 8) (byt (ipQ l) 9) (byt (ipQ l) 10) (byt (ipQ l) 11) (byt (ipQ l) 12) (byt (ipQ l) 13) (byt (ipQ l) 14) (byt (ipQ l) 15) (byt (ipQ l) 16) (byt (ipQ l) 17) (byt (ipQ l) 18) (byt (ipQ l) 19) (byt (ipQ l) 20) (byt (ipQ l) 21) (byt (ipQ l) 22) (byt (ipQ l) 23) (byt (ipQ l) 24) (byt (ipQ l) 25) (byt (ipQ l) 26) (byt (ipQ l) 27) (byt (ipQ l) 28) (byt (ipQ l) 29) (byt (ipQ l) 30) (byt (ipQ l) 31) (byt (ipQ l) 32) (byt (ipQ l) 33) (byt (ipQ l) 34) (byt (ipQ l) 35) (byt (ipQ l) 36) (byt (ipQ l) 37) (byt (ipQ l) 38) (byt (ipQ l) 39) _).trans ?_
    refine (if_pos (zab.2 (zdU (zam rfl rfl rfl) hl2 e0))).trans ?_
    refine (if_pos (decide_eq_false (by omega))).trans ?_
    refine (if_pos (zab.2 (zdU (zam rfl rfl rfl) hl2 e0))).trans ?_
    refine (if_pos (by first | exact True.intro | rfl | omega | (simp; done) | (simp; omega) | (simp [zai]; done) | (simp [zai]; omega))).trans ?_
    refine (if_pos (zab.2 (zBb (l := ipQ l) (zbf rfl rfl (by omega) (zfo hA)) (by simp <;> omega) (zAK hr).1))).trans ?_
    refine (if_pos (AV.beq_self _)).trans ?_
    refine (if_pos (by simp only [zad, wE, wS, zaz]; omega)).trans ?_
    refine (if_pos (by simp only [zad, wE, wS, zaz]; omega)).trans ?_
    refine (if_pos (zab.2 (zej (l := rdG l) (zbf rfl rfl (by simp only [zad, wE, wS]; omega) (by simp only [zad, wE, wS]; exact hG)) (by simp only [zby, zad, wE, wS]; omega) (zeG rfl hs).1))).trans ?_
    refine (if_pos (by simp [zad, hne])).trans ?_
    rfl
   have hrr : zb9 l = 0 := by rw [zcG hn hlen (hI.trans hr), hP, hs]
   have hvr : zci l = .tup [.agg (zaO true A ((A : Int) + 40) ((A : Int) + (40 + zan (ipQ l) 4)) (byt (ipQ l) 6) (zdm (ipQ l) 8) (zdm (ipQ l) 24) (zan (rdG l) 0) (zan (rdG l) 2) (zca (byt (ipQ l) 6) (rdG l))), .int .i64 0] := by
    unfold zci zjs
    rw [hrr, if_pos rfl, hA, hS, hE, hP, hv]; unfold ze2 zd2; rw [hv]; rfl
   rw [hvr]
   refine Runs.valT0 (zdK (A : Int) 34525 0 .nilFn (.tup [.agg ([.int .i64 (40 + zan (ipQ l) 4), .int .u8 (byt (ipQ l) 6)] ++ zbx true (byt (ipQ l) 8) (byt (ipQ l) 9) (byt (ipQ l) 10) (byt (ipQ l) 11) (byt (ipQ l) 12) (byt (ipQ l) 13) (byt (ipQ l) 14) (byt (ipQ l) 15) (byt (ipQ l) 16) (byt (ipQ l) 17) (byt (ipQ l) 18) (byt (ipQ l) 19) (byt (ipQ l) 20) (byt (ipQ l) 21) (byt (ipQ l) 22) (byt (ipQ l) 23) ++ zbx true (byt (ipQ l) 24) (byt (ipQ l) 25) (byt (ipQ l) 26) (byt (ipQ l) 27) (byt (ipQ l) 28) (byt (ipQ l) 29) (byt (ipQ l) 30) (byt (ipQ l) 31) (byt (ipQ l) 32) (byt (ipQ l) 33) (byt (ipQ l) 34) (byt (ipQ l) 35) (byt (ipQ l) 36) (byt (ipQ l) 37) (byt (ipQ l) 38) (byt (ipQ l) 39)), .int .i64 0]) (.tup [.agg [.int .u16 (zan (rdG l) 0), .int .u16 (zan (rdG l) 2), .int .u8 (zca (byt (ipQ l) 6) (rdG l))], .int .i64 0])) (F := 100) (n := 4) (pr := [(13, .bool false), (19, .bool false), (27, .bool false), (44, .bool false)]) ?_
   refine (zth l (A : Int) 40 (40 + zan (ipQ l) 4) (byt (ipQ l) 6) (zan (rdG l) 0) (zan (rdG l) 2) (zca (byt (ipQ l) 6) (rdG l)) 0 (byt (ipQ l) 8) (byt (ipQ l) 9) (byt (ipQ l) 10) (byt (ipQ l) 11) (byt (ipQ l) 12) (byt (ipQ l) 13) (byt (ipQ l) 14) (byt (ipQ l) 15) (byt (ipQ l) 16) (byt (ipQ l) 17) (byt (ipQ l) 18) (byt (ipQ l) 19) (byt (ipQ l) 20) (byt (ipQ l) 21) (byt (ipQ l) 22) (byt (ipQ l) 23) (byt (ipQ l) 24) (byt (ipQ l) 25) (byt (ipQ l) 26) (byt (ipQ l) 27) (byt (ipQ l) 28) (byt (ipQ l) 29) (byt (ipQ l) 30) (byt (ipQ l) 31) (byt (ipQ l) 32) (byt (ipQ l) 33) (byt (ipQ l) 34) (byt (ipQ l) 35) (byt (ipQ l) 36) (byt (ipQ l) 37) (byt (ipQ l) 38) (byt (ipQ l) 39) _).trans ?_
   refine (if_pos (zab.2 (zdU (zam rfl rfl rfl) hl2 e0))).trans ?_
   refine (if_pos (decide_eq_false (by omega))).trans ?_
   refine (if_pos (zab.2 (zdU (zam rfl rfl rfl) hl2 e0))).trans ?_
   refine (if_pos (by first | exact True.intro | rfl | omega | (simp; done) | (simp; omega) | (simp [zai]; done) | (simp [zai]; omega))).trans ?_
   refine (if_pos (zab.2 (zBb (l := ipQ l) (zbf rfl rfl (by omega) (zfo hA)) (by simp <;> omega) (zAK hr).1))).trans ?_
   refine (if_pos (AV.beq_self _)).trans ?_
   refine (if_pos (by simp only [zad, wE, wS, zaz]; omega)).trans ?_
   refine (if_pos (by simp only [zad, wE, wS, zaz]; omega)).trans ?_
   refine (if_pos (zab.2 (zej (l := rdG l) (zbf rfl rfl (by simp only [zad, wE, wS]; omega) (by simp only [zad, wE, wS]; exact hG)) (by simp only [zby, zad, wE, wS]; omega) (zbP hs).1))).trans ?_
   refine (if_pos (AV.beq_self _)).trans ?_
   refine (if_pos (AV.beq_self _)).trans ?_
   refine (if_pos (AV.beq_self _)).trans ?_
   simp only [zad, wE, wS]
   rfl

theorem zz6 : SoundE Try.prog 18 (zbj zk7) := by
 refine zax fun args h v h' hg => ?_
 unfold zk7 at hg
 split at hg
 · rename_i b
   simp only [Option.some.injEq, Prod.mk.injEq, Bool.and_eq_true, decide_eq_true_eq] at hg
   obtain ⟨⟨hb, hn⟩, rfl, rfl⟩ := hg
   rw [← zbt hb] at hn
   refine ⟨rfl, ?_, [slB 0 (bOf h b)], [zaC (bOf h b)], .cons _ _ _ _ _ _ _ (zaJ hb 0) (.nil _), zs9 _ hn⟩
   unfold zci zjs
   split
   · unfold ze2 zd2; split <;> rfl
   · rfl
 · simp at hg

end Go.Proofs.Ytnchnjkakddhlaa.L
