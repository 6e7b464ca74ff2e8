/- EncapTwice's run. -/
import Derived.Test.YtjkkhbeidhpghaaEncapTwiceN
set_option autoImplicit false
set_option maxRecDepth 100000
set_option linter.unusedVariables false
set_option linter.unusedSimpArgs false
namespace Go.Proofs.Ytjkkhbeidhpghaa.L
open Go Go.Abs

theorem etMain (v d6 : Bool) (n : Int) (d : List UInt8) (hd : d.length ≤ 200) : ∃ h', Runs Try.prog 6 [.int .i64 n, .bool v, .bool d6, slB 0 d] [farB d] (.bool true) h' := by
  have hl := bldF_len v false false false n 0 d 0 (by omega)
  have hA : frA false = 14 := rfl
  have hH : frH v ≤ 40 := by cases v <;> decide
  have hH0 : 20 ≤ frH v := by cases v <;> decide
  have hD6 : frH d6 ≤ 40 := by cases d6 <;> decide
  have hh : hdn false = 20 := rfl
  obtain ⟨g1, g2, g3⟩ := bldF_read v false false false n 0 d 0 (by omega) (by omega)
  obtain ⟨_, e2, _⟩ := vw_facts g1 g3 (by rw [kSrc_B]; exact adrB_wf rfl) (by rw [kDst_B]; exact adrB_wf rfl)
  obtain ⟨C0, C1, c0, c1, c2, c3, hF, hO, hI⟩ := inF_bld v false false false d6 n 2 0 d 0 (by omega) (by omega)
  have hr := outF_read (tag := false) (m := 2) (by rw [hI]; omega) c2
  have hol : (outF d6 false v 2 C1 (ipH v (prt false) (hdn false + d.length : Nat) C0 (kSrcB n) kDstB ++ bldG v false false n 0 d)).length = frA false + (frH d6 + (frH v + (hdn false + d.length))) := by
    unfold outF; rw [List.length_append, List.length_append, bldE_length, ipH_length rfl rfl, hI]
  have hB : ∀ (h : AHeap) (a : AV) (q : Nat), (bOk h a = true ∧ bOf h a = d) → h.length = q → BuildR0 [.agg (keyV v false n), .int .u8 0, a, .bool false, .bool false, .int .i64 0] h (slB q (bldF v false false false n 0 d 0)) [ownB (bldF v false false false n 0 d 0)] := fun h a q g hq => BuildR0.mk v false false n 0 d 0 h a q g (by omega) (by decide) hq
  have hIn : ∀ (h : AHeap) (a : AV) (q : Nat), (bOk h a = true ∧ bOf h a = (bldF v false false false n 0 d 0)) → h.length = q → InR [a, .agg (dAdr false 150), .agg (dAdr true 150), .agg (dAdr d6 2)] h (.tup [slB q (inF (bldF v false false false n 0 d 0) v d6 2 (frA false) (frA false + frH v + (hdn false + d.length) : Nat)), .int .i64 0]) [ownB (inF (bldF v false false false n 0 d 0) v d6 2 (frA false) (frA false + frH v + (hdn false + d.length) : Nat))] :=
    fun h a q g hq => InR.ok (bldF v false false false n 0 d 0) v d6 2 n _ _ _ _ _ _ _ h a q g (by omega) g3 ⟨(readR_0 g1).1, e2⟩ ⟨by omega, by omega⟩ (by omega) hq
  rw [hO] at hIn
  generalize outF d6 false v 2 C1 (ipH v (prt false) (hdn false + d.length : Nat) C0 (kSrcB n) kDstB ++ bldG v false false n 0 d) = O at *
  have hvO : vRead O = .tup [.agg view0, .int .i64 6] := vRead_N hr (by decide)
  have hIn2 : ∀ (h : AHeap) (a : AV) (q : Nat), (bOk h a = true ∧ bOf h a = O) → h.length = q → InR [a, .agg (dAdr false 150), .agg (dAdr true 150), .agg (dAdr d6 3)] h (.tup [slB q [], .int .i64 6]) [ownB []] :=
    fun h a q g hq => InR.no O d6 3 6 h a q g (by omega) hvO (by decide) hq
  generalize (bldF v false false false n 0 d 0) = F at *
  refine Runs.valT0 (tETOk F O) (F := 100) (n := 5) (pr := [(18, .bool false), (52, .bool true), (56, .bool true), (60, .bool true), (65, .bool true)]) ?_
  refine (nfET v d6 n d F O _).trans ?_
  refine (if_pos (decide_eq_false (by omega))).trans ?_
  refine (if_pos (cdec_true.2 (hB _ _ _ (bOk_row rfl rfl rfl) rfl))).trans ?_
  refine (if_pos (cdec_true.2 (hIn _ _ _ (bOk_row rfl rfl rfl) rfl))).trans ?_
  refine (if_pos (cdec_true.2 (sayRead (bOk_row rfl rfl rfl) (by show O.length ≤ _; omega) hvO))).trans ?_
  refine (if_pos (cdec_true.2 (hIn2 _ _ _ (bOk_row rfl rfl rfl) rfl))).trans ?_
  rfl
theorem runEncapTwice (n : Int) (v d6 : Bool) (d : List UInt8) (hn : -9223372036854775808 ≤ n ∧ n < 9223372036854775808) (hd : d.length ≤ maxLen) : ∃ h', Runs Try.prog 6 [.int .i64 n, .bool v, .bool d6, slB 0 d] [farB d] (.bool true) h' := by
  by_cases h : d.length ≤ 200
  · exact etMain v d6 n d h
  · refine Runs.valT0 (tETOk [] []) (F := 100) (n := 5) (pr := [(18, .bool true)]) ?_
    refine (nfETL v d6 n d _).trans ?_
    refine (if_pos (decide_eq_true (by omega))).trans ?_
    rfl

end Go.Proofs.Ytjkkhbeidhpghaa.L
