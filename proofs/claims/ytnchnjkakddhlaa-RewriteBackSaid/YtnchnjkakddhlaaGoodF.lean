/- Whether a frame is good. -/
import Derived.Test.YtnchnjkakddhlaaSayRd
import Derived.Test.YtnchnjkakddhlaaGood
set_option autoImplicit false
set_option linter.unusedVariables false
namespace Go.Proofs.Ytnchnjkakddhlaa.L
open Go Go.Abs
abbrev w6 (n : Int) : Int := IntKind.i64.wrap n
abbrev iv (n : Int) : Int := zad (some (AV.int .i64 n))
def zij (l : List UInt8) : Bool := decide (zb9 l = 0) && zfy (rdP l) (rdG l) (ze2 l) (zd2 l)
def zh9 : zdD := fun args h => match args with
 | [b] => some (bOk h b && decide (nOf b ≤ 1000000000000), .bool (zij (bOf h b)), h)
 | _ => none
theorem znA {l : List UInt8} (h : zb9 l = 0) : zci l = .tup [.agg (zaO (zfm l) (za7 l).1 ((za7 l).1 + rdS l) ((za7 l).1 + rdE l) (rdP l) (ze2 l) (zd2 l) (zan (rdG l) 0) (zan (rdG l) 2) (zca (rdP l) (rdG l))), .int .i64 0] := by
 unfold zci zjs; rw [h, if_pos rfl]
theorem zlD {l : List UInt8} (h : zb9 l = 0) : (za7 l).2.2 = 0 ∧ l.length ≤ 65535 ∧ rdI l = 0 ∧ zbW (rdP l) (rdG l) = 0 := by
 unfold zb9 at h
 by_cases h1 : (za7 l).2.2 = 0
 · rw [if_neg (by simp [h1])] at h
   by_cases h2 : 65535 < l.length
   · rw [if_pos h2] at h; omega
   · rw [if_neg h2] at h
     by_cases h3 : rdI l = 0
     · rw [if_neg (by simp [h3])] at h; exact ⟨h1, by omega, h3, h⟩
     · rw [if_pos h3] at h; exact absurd h h3
 · rw [if_pos h1] at h; exact absurd h h1
theorem zvv {l : List UInt8} (h0 : (za7 l).2.2 = 0) (hI : rdI l = 0) : (0 ≤ (za7 l).1 ∧ (za7 l).1 ≤ 18 ∧ 14 ≤ (za7 l).1) ∧ (20 ≤ rdS l ∧ rdS l ≤ rdE l) ∧ (za7 l).1 + rdE l ≤ l.length ∧
 (l.drop (0 + ((za7 l).1 + rdS l).toNat * 1)).take (((za7 l).1 + rdE l).toNat - ((za7 l).1 + rdS l).toNat) = rdG l ∧ (rdP l = 6 ∨ rdP l = 17) := by
 obtain ⟨A, hA, hA2, hAl, hkd⟩ := zrU h0
 have hq : (ipQ l).length = l.length - A := by unfold ipQ; rw [hA]; simp
 have key : 20 ≤ rdS l ∧ rdS l ≤ rdE l ∧ rdE l ≤ (ipQ l).length ∧ (rdP l = 6 ∨ rdP l = 17) := by
  unfold rdI at hI
  unfold rdS rdE rdP
  split
  · rename_i hv
    rw [if_pos hv] at hI
    obtain ⟨b0, b3, b5⟩ := zfR hI
    have := zau (ipQ l) 4
    exact ⟨by omega, by omega, b3, b5⟩
  · rename_i hv
    rw [if_neg hv] at hI
    obtain ⟨b0, b1, b2, b3, b5, _⟩ := zfB hI
    exact ⟨b1, b2, b3, b5⟩
 obtain ⟨k1, k2, k3, k4⟩ := key
 have hG := zmU (l := l) hA rfl rfl (show 0 ≤ rdS l by omega) k2
 rw [← hA] at hG
 exact ⟨by omega, ⟨k1, k2⟩, by omega, hG, k4⟩
theorem zcY {l : List UInt8} (h : zb9 l = 0) : 0 ≤ (za7 l).1 ∧ (20 ≤ rdS l ∧ rdS l ≤ rdE l) ∧ ((za7 l).1 + rdE l ≤ l.length ∧ l.length ≤ 65535) ∧
 (l.drop (0 + ((za7 l).1 + rdS l).toNat * 1)).take (((za7 l).1 + rdE l).toNat - ((za7 l).1 + rdS l).toNat) = rdG l ∧ (0 ≤ rdP l ∧ rdP l < 256) := by
 obtain ⟨h0, hl, hI, _⟩ := zlD h
 obtain ⟨k1, k2, k3, k4, k5⟩ := zvv h0 hI
 exact ⟨by omega, k2, ⟨k3, hl⟩, k4, by omega⟩
theorem zk1 (l : List UInt8) (k : Nat) : zas (zhr l k) = true := by
 have e : zhr l k = .bool false :: bys [l.getD k 0, l.getD (k+1) 0, l.getD (k+2) 0, l.getD (k+3) 0, 0, 0, 0, 0, 0, 0, 0, 0, 0, 0, 0, 0] := rfl
 rw [e]; exact zaK rfl
theorem ziz (l : List UInt8) (k : Nat) : zas (zdm l k) = true := by
 have e : zdm l k = .bool true :: bys ((List.range 16).map fun i => l.getD (k+i) 0) := rfl
 rw [e]; exact zaK rfl
theorem zlG {h : zaa} {a : AV} {l : List UInt8} {b : Bool} (g : bOk h a = true ∧ bOf h a = l) (hn : nOf a ≤ 1000000000000) (hr : zij l = b) : Says zh9 [a] h (.bool b) [] := ⟨by
 show some (bOk h a && decide (nOf a ≤ 1000000000000), AV.bool (zij (bOf h a)), h) = _
 rw [g.1, g.2, hr, decide_eq_true hn, List.append_nil]; rfl⟩
end Go.Proofs.Ytnchnjkakddhlaa.L
