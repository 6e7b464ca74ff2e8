/- RewriteTells' run. -/
import Derived.Test.YtnchnjkakddhlaaRewriteTellsN
set_option autoImplicit false
set_option maxRecDepth 100000
set_option linter.unusedVariables false
set_option linter.unusedSimpArgs false
namespace Go.Proofs.Ytnchnjkakddhlaa.L
open Go Go.Abs

def stRT (a c O : List UInt8) (B2 : ABlk) (k : Bool) (i : Nat) : List AV × AHeap := (vRT a c O k (difI a c i).length i, hRT a c O B2 (difI a c i))
theorem rtMax {a c : List UInt8} : (if true = true then if (c.length : Int) > (a.length : Int) then (c.length : Int) else (a.length : Int) else if (c.length : Int) < (a.length : Int) then (c.length : Int) else (a.length : Int)) = ((difN a c : Nat) : Int) := by
  rw [if_pos rfl]; unfold difN; split <;> omega
theorem gcRT' {a c O : List UInt8} {B : List AV} {e : Nat} {k : Bool} {l z : List Int} {i : Nat} {A : ABlk} {y : List Int} (hB : AV.frees B = true) (hy : z = y) :
    Gc 5 [slB 0 a, slB 1 c, slB 3 O, .bool k, slB 4 O, .bool k, .sl (some (7, 0)) z.length 0 false, .int .i64 i]
      [farB a, farB c, .cells B e .own none, ownB O, ownB O, .cells (l.map (AV.int .i64)) 1 .ro none, A, .cells (z.map (AV.int .i64)) 1 .own (some 5)]
      (vRT a c O k y.length i) (hRT a c O (.cells B e .own none) y) := by
  subst hy
  exact Gc.by [0, 1, 2, 3, 4, 7] rfl (by decide) (.cons _ _ _ _ (.sl _ _ _ _ _ _ rfl) (.cons _ _ _ _ (.sl _ _ _ _ _ _ rfl) (.cons _ _ _ _ (.sl _ _ _ _ _ _ rfl) (.cons _ _ _ _ (.free _ rfl) (.cons _ _ _ _ (.sl _ _ _ _ _ _ rfl) (.cons _ _ _ _ (.free _ rfl) (.cons _ _ _ _ (.sl _ _ _ _ _ _ rfl) (.free _ rfl))))))))
    (.cons _ _ _ _ _ rfl (.row (by simp) (by simp)) (.cons _ _ _ _ _ rfl (.row (by simp) (by simp)) (.cons _ _ _ _ _ rfl (.row hB (by simp)) (.cons _ _ _ _ _ rfl (.row (by simp) (by simp)) (.cons _ _ _ _ _ rfl (.row (by simp) (by simp)) (.cons _ _ _ _ _ rfl (BR.grown (frees_ints _) rfl) .nil))))))
theorem stepRT {a c O : List UInt8} {B : List AV} {e : Nat} {k : Bool} {i : Nat} (hB : AV.frees B = true) (ha : a.length ≤ 3000) (hc : c.length ≤ 3000) (hi : i < difN a c) :
    ∃ pr vs1 h1, qround Try.prog [] 100 4 pr noT RTL1 mRT (stRT a c O (.cells B e .own none) k i).1 (stRT a c O (.cells B e .own none) k i).2 = some (.norm, vs1, h1) ∧ Gc 5 vs1 h1 (stRT a c O (.cells B e .own none) k (i + 1)).1 (stRT a c O (.cells B e .own none) k (i + 1)).2 := by
  have hN : difN a c ≤ 3000 := by unfold difN; omega
  have hl := difI_len a c i
  have e0 : 0 + (i : Int).toNat * 1 = i := by omega
  have e5 : IntKind.i64.wrap ((i : Int) + 1) = ((i + 1 : Nat) : Int) := by rw [wrapI64 (by omega)]; omega
  have et : List.take ((difI a c i).length * 1) (List.map (AV.int IntKind.i64) (difI a c i)) ++ [AV.int IntKind.i64 i] = (difI a c i ++ [(i : Int)]).map (AV.int .i64) := by
    rw [Nat.mul_one, List.take_of_length_le (by simp)]; simp
  have el : (difI a c i).length + 1 = (difI a c i ++ [(i : Int)]).length := by simp
  by_cases h0 : i < a.length
  · by_cases h1 : i < c.length
    · by_cases h2 : byt a i = byt c i
      · have hd : difB a c i = false := by simp [difB, h2]; omega
        refine ⟨[(40, .bool true), (46, .bool false), (51, .bool false), (62, .bool false)], ?_, ?_, (nfRT3 ..).trans ?_, ?_⟩
        rotate_left 2
        · rw [rtMax]
          simp only [e0, e5, bys_get, isIntV_byte, intV_byte]
          repeat (first | (refine (if_pos ?_).trans ?_; · first | omega | (simp; done) | (simp; omega)))
          rfl
        · unfold stRT
          rw [difI_no hd]
          exact Gc.refl
      · have hd : difB a c i = true := by simp [difB, h2]
        refine ⟨[(40, .bool true), (46, .bool false), (51, .bool false), (62, .bool true)], ?_, ?_, (nfRT2 ..).trans ?_, ?_⟩
        rotate_left 2
        · rw [rtMax]
          simp only [e0, e5, bys_get, isIntV_byte, intV_byte]
          repeat (first | (refine (if_pos ?_).trans ?_; · first | (refine ⟨?_, ?_, ?_⟩ <;> first | rfl | omega) | (refine ⟨rfl, ?_, ?_, rfl, rfl⟩ <;> first | (simp; done) | omega) | omega | (simp; done) | (simp; omega)))
          rfl
        · unfold hRT20 hRT00
          rw [et, el]
          exact gcRT' hB (difI_yes hd).symm
    · have hd : difB a c i = true := by simp [difB]; omega
      refine ⟨[(40, .bool true), (46, .bool false), (51, .bool true)], ?_, ?_, (nfRT1 ..).trans ?_, ?_⟩
      rotate_left 2
      · rw [rtMax]
        simp only [e0, e5, bys_get, isIntV_byte, intV_byte]
        repeat (first | (refine (if_pos ?_).trans ?_; · first | (refine ⟨?_, ?_, ?_⟩ <;> first | rfl | omega) | (refine ⟨rfl, ?_, ?_, rfl, rfl⟩ <;> first | (simp; done) | omega) | omega | (simp; done) | (simp; omega)))
        rfl
      · unfold hRT10 hRT00
        rw [et, el]
        exact gcRT' hB (difI_yes hd).symm
  · have hd : difB a c i = true := by simp [difB]; omega
    refine ⟨[(40, .bool true), (46, .bool true)], ?_, ?_, (nfRT0 ..).trans ?_, ?_⟩
    rotate_left 2
    · rw [rtMax]
      simp only [e0, e5, bys_get, isIntV_byte, intV_byte]
      repeat (first | (refine (if_pos ?_).trans ?_; · first | (refine ⟨?_, ?_, ?_⟩ <;> first | rfl | omega) | (refine ⟨rfl, ?_, ?_, rfl, rfl⟩ <;> first | (simp; done) | omega) | omega | (simp; done) | (simp; omega)))
      rfl
    · unfold hRT00
      rw [et, el]
      exact gcRT' hB (difI_yes hd).symm
theorem fits_split : ∀ {l1 l2 : List CK} {m : List AV}, FitsK (l1 ++ l2) m → ∃ m1 m2, m = m1 ++ m2 ∧ FitsK l1 m1 ∧ FitsK l2 m2
  | [], _, m, h => ⟨[], m, rfl, .nil, h⟩
  | _ :: l1, l2, _, h => by
    cases h with
    | int k n hw _ m t =>
      obtain ⟨m1, m2, rfl, h1, h2⟩ := fits_split (l1 := l1) (l2 := l2) t
      exact ⟨_ :: m1, m2, rfl, .int _ _ hw _ _ h1, h2⟩
    | bool b _ m t =>
      obtain ⟨m1, m2, rfl, h1, h2⟩ := fits_split (l1 := l1) (l2 := l2) t
      exact ⟨_ :: m1, m2, rfl, .bool _ _ _ h1, h2⟩
    | str s _ m t =>
      obtain ⟨m1, m2, rfl, h1, h2⟩ := fits_split (l1 := l1) (l2 := l2) t
      exact ⟨_ :: m1, m2, rfl, .str _ _ _ h1, h2⟩
theorem dip_fits {xs : List AV} (h : FitsK ((.bool :: List.replicate 16 (.int .u8)) ++ [.int .u16]) xs) : ∃ cs pt, xs = cs ++ [.int .u16 pt] ∧ adrWf cs = true ∧ 0 ≤ pt ∧ pt < 65536 := by
  obtain ⟨m1, m2, rfl, h1, h2⟩ := fits_split h
  obtain ⟨v, X, rfl, hX⟩ := addr_fits h1
  cases h2 with
  | int _ pt hw _ _ t =>
  cases t
  have := u16_wf hw
  exact ⟨_, pt, rfl, adrB_wf hX, this⟩

theorem runRewriteTells (a : List UInt8) (xs : List AV) (c : List UInt8) (_ : a.length ≤ maxLen) (wx : FitsK ((.bool :: List.replicate 16 (.int .u8)) ++ [.int .u16]) xs) (_ : c.length ≤ maxLen) :
    ∃ h', Runs Try.prog 3 [slB 0 a, .agg xs, slB 1 c] [farB a, farB c] (.bool true) h' := by
  obtain ⟨cs, pt, rfl, wc, hpt⟩ := dip_fits wx
  obtain ⟨w, z, rfl⟩ := adrWf_fn wc
  by_cases hl : a.length ≤ 3000 ∧ c.length ≤ 3000
  case neg =>
    refine Runs.valT0 (tRTOk [] false [] 0) (F := 100) (n := 4) (pr := [(20, .bool true)]) ?_
    refine (nfRTl ..).trans ?_
    by_cases ha : a.length ≤ 3000
    · exact (if_neg (by simp; omega)).trans (if_pos (by simp; omega))
    · exact if_pos (by simp; omega)
  obtain ⟨ha, hc⟩ := hl
  generalize hO : toL a (adF w z) pt = O
  generalize hk : decide (toOk a (adF w z)) = k
  have hN : difN a c ≤ 3000 := by unfold difN; omega
  have hdl := difI_len a c (difN a c)
  have lp : loopsOf (bodyOf Try.prog 3) = [RTL1] := by kernel_rfl
  have key : True → ∃ vs2 h2, Pre 5 (vRTz a c O k 0) (hRTz a c O (.cells (adF w z ++ [.int .u16 pt]) 18 .own none)) vs2 h2 ∧ ∃ n, GReach (roundG Try.prog (deepT Try.prog [] 100 4) (lsT noT) RTL1 mRT) 5 n vs2 h2 (.exit 0) (vRT a c O k (difI a c (difN a c)).length (difN a c)) (hRT a c O (.cells (adF w z ++ [.int .u16 pt]) 18 .own none) (difI a c (difN a c))) := by
    intro _
    refine ⟨_, _, Pre.nil1 1 (.same _ _ _ (.same _ _ _ (.same _ _ _ (.same _ _ _ (.same _ _ _ (.same _ _ _ (.void _ _ _ (NRs.refl _)))))))) rfl, ?_⟩
    exact loop_T (stRT a c O (.cells (adF w z ++ [.int .u16 pt]) 18 .own none) k) (N := difN a c) (by simp) (fun i hi => stepRT rfl ha hc hi) ⟨[(40, .bool false)], _, _, (nfRTs ..).trans (if_pos (by rw [rtMax]; simp)), Gc.refl⟩
  refine Runs.valT (tRTOk O k (difI a c (difN a c)) (difI a c (difN a c)).length) (F := 100) (n := 4) (pr := [(20, .bool false)]) (only (k := 7) lp (fixP_T (find_nil _) (F := 100) (n := 4) (LS := noT) (noLoops (by kernel_rfl)) key)) ?_
  refine (nfRTm ..).trans ?_
  refine (if_neg (by simp; omega)).trans ?_
  refine (if_pos (by simp; omega)).trans ?_
  refine (if_pos (cdec_true.2 (.mk a O (adF w z) pt _ _ 3 k (bOk_row rfl rfl rfl) (by omega) wc hpt hO hk rfl))).trans ?_
  refine (if_pos (cdec_true.2 (.mk a O (adF w z) pt _ _ 4 k (bOk_row rfl rfl rfl) (by omega) wc hpt hO hk rfl))).trans ?_
  refine (if_pos (cdec_true.2 ⟨trivial, rfl, rfl⟩)).trans ?_
  refine (if_pos (by simp)).trans ?_
  refine (if_pos (by simp)).trans ?_
  refine (if_pos (by simp)).trans ?_
  refine (if_pos (by simp)).trans ?_
  refine (if_pos (by simp)).trans ?_
  refine (if_pos (by simp)).trans ?_
  refine (if_pos (cdec_true.2 (.mk a c _ _ _ 6 (bOk_row rfl rfl rfl) (bOk_row rfl rfl rfl) (by omega) (by omega) _ rfl rfl _ rfl))).trans ?_
  refine (if_pos (cdec_true.2 (.mk (difI a c (difN a c)) _ _ _ (rowI_blk rfl rfl) (rowI_blk rfl rfl) (by omega)))).trans ?_
  rfl

end Go.Proofs.Ytnchnjkakddhlaa.L
