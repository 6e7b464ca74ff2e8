/- EncapOdd's run. -/
import Derived.Test.YtjkkhbeidhpghaaEncapOddN
import Derived.Test.YtjkkhbeidhpghaaOddKit
set_option autoImplicit false
set_option maxRecDepth 100000
set_option linter.unusedVariables false
set_option linter.unusedSimpArgs false
namespace Go.Proofs.Ytjkkhbeidhpghaa.L
open Go Go.Abs

theorem eoRun (v d6 : Bool) (n at' bit : Int) (d F O : List UInt8) (q k j : Nat) (hd : d.length ≤ 200) (hq : 1 ≤ q ∧ q ≤ 20) (hk : at' % 8 = (k : Int)) (hj : bit % 8 = (j : Int)) (hk8 : k < 8) (hj8 : j < 8) (hO : 60 ≤ O.length ∧ O.length ≤ 3000)
    (hB : ∀ (h : AHeap) (a : AV) (k : Nat), (bOk h a = true ∧ bOf h a = d) → h.length = k → BuildR0 [.agg (keyV v true n), .int .u8 0, a, .bool false, .bool false, .int .i64 0] h (slB k F) [ownB F])
    (hIn : ∀ (h : AHeap) (a : AV) (k : Nat), (bOk h a = true ∧ bOf h a = F) → h.length = k → InR [a, .agg (dAdr false 150), .agg (dAdr true 150), .agg (dAdr d6 1)] h (.tup [slB k O, .int .i64 0]) [ownB O])
    (hO1 : ∀ (h : AHeap) (a : AV) (k : Nat), (bOk h a = true ∧ bOf h a = O ++ List.replicate q 0) → h.length = k → OutR [a] h (outNo k) [ownB []])
    (hO2 : ∀ (h : AHeap) (a : AV) (i : Nat), (bOk h a = true ∧ bOf h a = O.set (14 + k) (u8i (abits .u8 (· ^^^ ·) (byt O (14 + k)) (IntKind.u8.wrap (1 * 2 ^ min j 8))))) → h.length = i → OutR [a] h (outNo i) [ownB []]) :
    ∃ h', Runs Try.prog 4 [.int .i64 n, .bool v, slB 0 d, .bool d6, .int .i64 at', .int .i64 bit, .int .i64 (q : Int)] [farB d] (.bool true) h' := by
  have hw : IntKind.i64.wrap (14 + (k : Int)) = ((14 + k : Nat) : Int) := by rw [wrapI64 (by omega)]; omega
  have hi : 0 + (((14 + k : Nat) : Int)).toNat * 1 = 14 + k := by omega
  have hc1 : List.take ((0 + O.length) * 1) (List.take (O.length * 1) (bys O)) ++ zrep ((q : Int)).toNat [AV.int .u8 0] = bys (O ++ List.replicate q 0) := by
    rw [zrep_one, Nat.zero_add, bysTakeL, bysTakeL]; simp [bys]
  have hx : 0 ≤ abits .u8 (· ^^^ ·) (byt O (14 + k)) (IntKind.u8.wrap (1 * 2 ^ min j 8)) ∧ abits .u8 (· ^^^ ·) (byt O (14 + k)) (IntKind.u8.wrap (1 * 2 ^ min j 8)) < 256 := by
    obtain ⟨x, e, hx, _⟩ := flip_byte (byt_range O (14 + k)) hj8
    rw [e]; exact hx
  have hc2 : putCells (List.take (O.length * 1) (bys O)) (0 + (IntKind.i64.wrap (14 + (k : Int))).toNat * 1) [AV.int .u8 (abits .u8 (· ^^^ ·) (intV (List.take (O.length * 1) (bys O))[0 + (IntKind.i64.wrap (14 + (k : Int))).toNat * 1]?) (IntKind.u8.wrap (1 * 2 ^ min ((j : Int)).toNat 8)))] = bys (O.set (14 + k) (u8i (abits .u8 (· ^^^ ·) (byt O (14 + k)) (IntKind.u8.wrap (1 * 2 ^ min j 8))))) := by
    rw [hw, hi, bysTakeL, bys_get, intV_byte, Int.toNat_natCast]
    exact putCells_byte' _ _ _ hx
  refine Runs.valT0 (tEOOk F O) (F := 100) (n := 5) (pr := [(29, .bool false), (33, .bool false), (36, .bool false), (58, .bool false), (74, .int .i64 (k : Int)), (81, .int .i64 (j : Int))]) ?_
  refine (nfEO v d6 n at' bit (q : Int) (k : Int) (j : Int) d F O _).trans ?_
  refine (if_pos (decide_eq_false (by omega))).trans ?_
  refine (if_pos (decide_eq_false (by omega))).trans ?_
  refine (if_pos (decide_eq_false (by omega))).trans ?_
  refine (if_pos (cdec_true.2 (hB _ _ _ (bOk_row rfl rfl rfl) rfl))).trans ?_
  refine (if_pos (cdec_true.2 (hIn _ _ _ (bOk_row rfl rfl rfl) rfl))).trans ?_
  refine (if_pos (decide_eq_false (by omega))).trans ?_
  refine (if_pos (by simp)).trans ?_
  refine (if_pos ⟨by omega, rfl, by omega⟩).trans ?_
  refine (if_pos ⟨rfl, rfl, .inr rfl, rfl, by simp⟩).trans ?_
  refine (if_pos ⟨rfl, by omega, by omega, by omega⟩).trans ?_
  refine (if_pos ⟨by omega, rfl, by omega⟩).trans ?_
  refine (if_pos (by simp)).trans ?_
  refine (if_pos ⟨rfl, by simp, .inr rfl, rfl, by rw [zrep_one]; simp⟩).trans ?_
  refine (if_pos (cdec_true.2 (hO1 _ _ _ (bOk_row rfl hc1 (by simp)) rfl))).trans ?_
  refine (if_pos (by simp)).trans ?_
  refine (if_pos ⟨by omega, rfl, by omega⟩).trans ?_
  refine (if_pos ⟨rfl, rfl, .inr rfl, rfl, by simp⟩).trans ?_
  refine (if_pos ⟨rfl, hk⟩).trans ?_
  refine (if_pos (by rw [hw]; omega)).trans ?_
  refine (if_pos (by rw [hw, bysTakeL, hi]; simp; omega)).trans ?_
  refine (if_pos ⟨rfl, hj⟩).trans ?_
  refine (if_neg (by omega)).trans ?_
  refine (if_pos (by rw [hw]; omega)).trans ?_
  refine (if_pos ⟨by rw [hw]; simp; omega, rfl⟩).trans ?_
  refine (if_pos (by rw [hw, bysTakeL, hi]; simp; omega)).trans ?_
  refine (if_pos (AV.beq_self _)).trans ?_
  refine (if_pos (cdec_true.2 (hO2 _ _ _ (bOk_row rfl hc2 (by simp)) rfl))).trans ?_
  rfl
theorem runEncapOdd (n : Int) (v : Bool) (d : List UInt8) (d6 : Bool) (at' bit more : Int) (hn : -9223372036854775808 ≤ n ∧ n < 9223372036854775808) (hd : d.length ≤ maxLen) (ha : -9223372036854775808 ≤ at' ∧ at' < 9223372036854775808) (hb : -9223372036854775808 ≤ bit ∧ bit < 9223372036854775808) (hm : -9223372036854775808 ≤ more ∧ more < 9223372036854775808) :
    ∃ h', Runs Try.prog 4 [.int .i64 n, .bool v, slB 0 d, .bool d6, .int .i64 at', .int .i64 bit, .int .i64 more] [farB d] (.bool true) h' := by
  by_cases h1 : d.length ≤ 200
  case neg =>
    refine Runs.valT0 (tEOOk [] []) (F := 100) (n := 5) (pr := [(29, .bool true)]) ?_
    refine (nfEOX1 v d6 n at' bit more d _).trans ?_
    refine (if_pos (decide_eq_true (by omega))).trans ?_
    rfl
  by_cases h2 : more < 1
  · refine Runs.valT0 (tEOOk [] []) (F := 100) (n := 5) (pr := [(29, .bool false), (33, .bool true)]) ?_
    refine (nfEOX2 v d6 n at' bit more d _).trans ?_
    refine (if_pos (decide_eq_false (by omega))).trans ?_
    refine (if_pos (decide_eq_true (by omega))).trans ?_
    rfl
  by_cases h3 : more > 20
  · refine Runs.valT0 (tEOOk [] []) (F := 100) (n := 5) (pr := [(29, .bool false), (33, .bool false), (36, .bool true)]) ?_
    refine (nfEOX3 v d6 n at' bit more d _).trans ?_
    refine (if_pos (decide_eq_false (by omega))).trans ?_
    refine (if_pos (decide_eq_false (by omega))).trans ?_
    refine (if_pos (decide_eq_true (by omega))).trans ?_
    rfl
  obtain ⟨q, rfl⟩ : ∃ q : Nat, more = (q : Int) := ⟨more.toNat, by omega⟩
  obtain ⟨k, hk⟩ : ∃ k : Nat, at' % 8 = (k : Int) := ⟨(at' % 8).toNat, by omega⟩
  obtain ⟨j, hj⟩ : ∃ j : Nat, bit % 8 = (j : Int) := ⟨(bit % 8).toNat, by omega⟩
  have hl := bldF_len v true false false n 0 d 0 (by omega)
  have hA : frA false = 14 := rfl
  have hH : frH v ≤ 40 := by cases v <;> decide
  have hH0 : 20 ≤ frH v := by cases v <;> decide
  have hD6 : frH d6 ≤ 40 := by cases d6 <;> decide
  have hD0 : 20 ≤ frH d6 := by cases d6 <;> decide
  have hh : hdn true = 8 := rfl
  obtain ⟨g1, g2, g3⟩ := bldF_read v true false false n 0 d 0 (by omega) (by omega)
  obtain ⟨_, e2, _⟩ := vw_facts g1 g3 (by rw [kSrc_B]; exact adrB_wf rfl) (by rw [kDst_B]; exact adrB_wf rfl)
  obtain ⟨C, I, hC, hI, hO, hmk⟩ := in_odd v true d6 n 1 d (by omega)
  have hol := o_len d6 v C I
  have hB : ∀ (h : AHeap) (a : AV) (q : Nat), (bOk h a = true ∧ bOf h a = d) → h.length = q → BuildR0 [.agg (keyV v true n), .int .u8 0, a, .bool false, .bool false, .int .i64 0] h (slB q (bldF v true false false n 0 d 0)) [ownB (bldF v true false false n 0 d 0)] := fun h a q g hq => BuildR0.mk v true false n 0 d 0 h a q g (by omega) (by decide) hq
  have hIn : ∀ (h : AHeap) (a : AV) (q : Nat), (bOk h a = true ∧ bOf h a = (bldF v true false false n 0 d 0)) → h.length = q → InR [a, .agg (dAdr false 150), .agg (dAdr true 150), .agg (dAdr d6 1)] h (.tup [slB q (inF (bldF v true false false n 0 d 0) v d6 1 (frA false) (frA false + frH v + (hdn true + d.length) : Nat)), .int .i64 0]) [ownB (inF (bldF v true false false n 0 d 0) v d6 1 (frA false) (frA false + frH v + (hdn true + d.length) : Nat))] :=
    fun h a q g hq => InR.ok (bldF v true false false n 0 d 0) v d6 1 n _ _ _ _ _ _ _ h a q g (by omega) g3 ⟨(readR_0 g1).1, e2⟩ ⟨by omega, by omega⟩ (by omega) hq
  rw [hO] at hIn
  exact eoRun v d6 n at' bit d _ _ q k j h1 ⟨by omega, by omega⟩ hk hj (by omega) (by omega) ⟨by omega, by omega⟩ hB hIn (fun h a i g hi => odd_more ⟨by omega, by omega⟩ hmk ⟨by omega, by omega⟩ h a i g hi) (fun h a i g hi => odd_bit ⟨by omega, by omega⟩ hmk (by omega) (by omega) h a i g hi)

end Go.Proofs.Ytjkkhbeidhpghaa.L
