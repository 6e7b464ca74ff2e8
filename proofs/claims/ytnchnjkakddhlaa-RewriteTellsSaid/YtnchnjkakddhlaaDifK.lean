/- rewrite.Differs: its contract. -/
import Derived.Test.YtnchnjkakddhlaaDifN
import Derived.Test.YtnchnjkakddhlaaGcKit
set_option autoImplicit false
set_option maxRecDepth 100000
set_option linter.unusedVariables false
set_option linter.unusedSimpArgs false
namespace Go.Proofs.Ytnchnjkakddhlaa.L
open Go Go.Abs

def difB (a b : List UInt8) (i : Nat) : Bool := decide (a.length ≤ i) || decide (b.length ≤ i) || decide (byt a i ≠ byt b i)
def difI (a b : List UInt8) (n : Nat) : List Int := ((List.range n).filter (difB a b)).map fun i : Nat => (i : Int)
theorem difI_yes {a b : List UInt8} {n : Nat} (h : difB a b n = true) : difI a b (n + 1) = difI a b n ++ [(n : Int)] := by simp [difI, List.range_succ, List.filter_append, h]
theorem difI_no {a b : List UInt8} {n : Nat} (h : difB a b n = false) : difI a b (n + 1) = difI a b n := by simp [difI, List.range_succ, List.filter_append, h]
theorem difI_len (a b : List UInt8) (n : Nat) : (difI a b n).length ≤ n := by
  unfold difI; rw [List.length_map]; exact Nat.le_trans (List.length_filter_le _ _) (by simp)
def stDif (a b : List UInt8) (N : Nat) (i : Nat) : List AV × AHeap := (vDif a b (difI a b i).length N i, hDif a b (difI a b i))

theorem stepDif0 {a b : List UInt8} {N i : Nat} (hN : N ≤ 10000000) (hi : i < N) (h : a.length ≤ i) :
    ∃ vs1 h1, qround Try.prog [] 100 4 [(12, .bool true), (17, .bool true)] noT DL mDif (stDif a b N i).1 (stDif a b N i).2 = some (.norm, vs1, h1) ∧ Gc 2 vs1 h1 (stDif a b N (i + 1)).1 (stDif a b N (i + 1)).2 := by
  have hd : difB a b i = true := by simp [difB, h]
  have hl := difI_len a b i
  have e0 : 0 + (i : Int).toNat * 1 = i := by omega
  have e5 : IntKind.i64.wrap ((i : Int) + 1) = ((i + 1 : Nat) : Int) := by rw [wrapI64 (by omega)]; omega
  show ∃ vs1 h1, qround Try.prog [] 100 4 _ noT DL mDif (vDif a b (difI a b i).length N i) (hDif a b (difI a b i)) = some (.norm, vs1, h1) ∧ _
  rw [nfDif0]
  refine ⟨?_, ?_, ?_, ?_⟩
  rotate_left 2
  · simp only [e0, e5, bys_get, isIntV_byte, intV_byte]
    repeat (first | (refine (if_pos ?_).trans ?_; · first | (refine ⟨?_, ?_, ?_⟩ <;> first | rfl | omega) | (refine ⟨rfl, ?_, ?_, rfl, rfl⟩ <;> first | (simp; done) | omega) | omega | (simp; done) | (simp; omega)))
    rfl
  · unfold stDif hDif00
    rw [difI_yes hd]
    have et : List.take ((difI a b i).length * 1) (List.map (AV.int IntKind.i64) (difI a b i)) ++ [AV.int IntKind.i64 i] = (difI a b i ++ [(i : Int)]).map (AV.int .i64) := by
      rw [Nat.mul_one, List.take_of_length_le (by simp)]; simp
    rw [et, show (difI a b i).length + 1 = (difI a b i ++ [(i : Int)]).length by simp]
    exact Gc.by [0, 1, 4] rfl (by decide) (.cons _ _ _ _ (.sl _ _ _ _ _ _ rfl) (.cons _ _ _ _ (.sl _ _ _ _ _ _ rfl) (.cons _ _ _ _ (.sl _ _ _ _ _ _ rfl) (.free _ rfl)))) (.cons _ _ _ _ _ rfl (.row (by simp) (by simp)) (.cons _ _ _ _ _ rfl (.row (by simp) (by simp)) (.cons _ _ _ _ _ rfl (BR.grown (frees_ints _) rfl) .nil)))

theorem stepDif1 {a b : List UInt8} {N i : Nat} (hN : N ≤ 10000000) (hi : i < N) (h0 : i < a.length) (h : b.length ≤ i) :
    ∃ vs1 h1, qround Try.prog [] 100 4 [(12, .bool true), (17, .bool false), (22, .bool true)] noT DL mDif (stDif a b N i).1 (stDif a b N i).2 = some (.norm, vs1, h1) ∧ Gc 2 vs1 h1 (stDif a b N (i + 1)).1 (stDif a b N (i + 1)).2 := by
  have hd : difB a b i = true := by simp [difB, h]
  have hl := difI_len a b i
  have e0 : 0 + (i : Int).toNat * 1 = i := by omega
  have e5 : IntKind.i64.wrap ((i : Int) + 1) = ((i + 1 : Nat) : Int) := by rw [wrapI64 (by omega)]; omega
  show ∃ vs1 h1, qround Try.prog [] 100 4 _ noT DL mDif (vDif a b (difI a b i).length N i) (hDif a b (difI a b i)) = some (.norm, vs1, h1) ∧ _
  rw [nfDif1]
  refine ⟨?_, ?_, ?_, ?_⟩
  rotate_left 2
  · simp only [e0, e5, bys_get, isIntV_byte, intV_byte]
    repeat (first | (refine (if_pos ?_).trans ?_; · first | (refine ⟨?_, ?_, ?_⟩ <;> first | rfl | omega) | (refine ⟨rfl, ?_, ?_, rfl, rfl⟩ <;> first | (simp; done) | omega) | omega | (simp; done) | (simp; omega)))
    rfl
  · unfold stDif hDif10
    rw [difI_yes hd]
    have et : List.take ((difI a b i).length * 1) (List.map (AV.int IntKind.i64) (difI a b i)) ++ [AV.int IntKind.i64 i] = (difI a b i ++ [(i : Int)]).map (AV.int .i64) := by
      rw [Nat.mul_one, List.take_of_length_le (by simp)]; simp
    rw [et, show (difI a b i).length + 1 = (difI a b i ++ [(i : Int)]).length by simp]
    exact Gc.by [0, 1, 4] rfl (by decide) (.cons _ _ _ _ (.sl _ _ _ _ _ _ rfl) (.cons _ _ _ _ (.sl _ _ _ _ _ _ rfl) (.cons _ _ _ _ (.sl _ _ _ _ _ _ rfl) (.free _ rfl)))) (.cons _ _ _ _ _ rfl (.row (by simp) (by simp)) (.cons _ _ _ _ _ rfl (.row (by simp) (by simp)) (.cons _ _ _ _ _ rfl (BR.grown (frees_ints _) rfl) .nil)))

theorem stepDif2 {a b : List UInt8} {N i : Nat} (hN : N ≤ 10000000) (hi : i < N) (h0 : i < a.length) (h1 : i < b.length) (h : byt a i ≠ byt b i) :
    ∃ vs1 h1, qround Try.prog [] 100 4 [(12, .bool true), (17, .bool false), (22, .bool false), (33, .bool true)] noT DL mDif (stDif a b N i).1 (stDif a b N i).2 = some (.norm, vs1, h1) ∧ Gc 2 vs1 h1 (stDif a b N (i + 1)).1 (stDif a b N (i + 1)).2 := by
  have hd : difB a b i = true := by simp [difB, h]
  have hl := difI_len a b i
  have e0 : 0 + (i : Int).toNat * 1 = i := by omega
  have e5 : IntKind.i64.wrap ((i : Int) + 1) = ((i + 1 : Nat) : Int) := by rw [wrapI64 (by omega)]; omega
  show ∃ vs1 h1, qround Try.prog [] 100 4 _ noT DL mDif (vDif a b (difI a b i).length N i) (hDif a b (difI a b i)) = some (.norm, vs1, h1) ∧ _
  rw [nfDif2]
  refine ⟨?_, ?_, ?_, ?_⟩
  rotate_left 2
  · simp only [e0, e5, bys_get, isIntV_byte, intV_byte]
    repeat (first | (refine (if_pos ?_).trans ?_; · first | (refine ⟨?_, ?_, ?_⟩ <;> first | rfl | omega) | (refine ⟨rfl, ?_, ?_, rfl, rfl⟩ <;> first | (simp; done) | omega) | omega | (simp; done) | (simp; omega)))
    rfl
  · unfold stDif hDif20
    rw [difI_yes hd]
    have et : List.take ((difI a b i).length * 1) (List.map (AV.int IntKind.i64) (difI a b i)) ++ [AV.int IntKind.i64 i] = (difI a b i ++ [(i : Int)]).map (AV.int .i64) := by
      rw [Nat.mul_one, List.take_of_length_le (by simp)]; simp
    rw [et, show (difI a b i).length + 1 = (difI a b i ++ [(i : Int)]).length by simp]
    exact Gc.by [0, 1, 4] rfl (by decide) (.cons _ _ _ _ (.sl _ _ _ _ _ _ rfl) (.cons _ _ _ _ (.sl _ _ _ _ _ _ rfl) (.cons _ _ _ _ (.sl _ _ _ _ _ _ rfl) (.free _ rfl)))) (.cons _ _ _ _ _ rfl (.row (by simp) (by simp)) (.cons _ _ _ _ _ rfl (.row (by simp) (by simp)) (.cons _ _ _ _ _ rfl (BR.grown (frees_ints _) rfl) .nil)))

theorem stepDif3 {a b : List UInt8} {N i : Nat} (hN : N ≤ 10000000) (hi : i < N) (h0 : i < a.length) (h1 : i < b.length) (h : byt a i = byt b i) :
    ∃ vs1 h1, qround Try.prog [] 100 4 [(12, .bool true), (17, .bool false), (22, .bool false), (33, .bool false)] noT DL mDif (stDif a b N i).1 (stDif a b N i).2 = some (.norm, vs1, h1) ∧ Gc 2 vs1 h1 (stDif a b N (i + 1)).1 (stDif a b N (i + 1)).2 := by
  have hd : difB a b i = false := by simp [difB, h]; omega
  have hl := difI_len a b i
  have e0 : 0 + (i : Int).toNat * 1 = i := by omega
  have e5 : IntKind.i64.wrap ((i : Int) + 1) = ((i + 1 : Nat) : Int) := by rw [wrapI64 (by omega)]; omega
  show ∃ vs1 h1, qround Try.prog [] 100 4 _ noT DL mDif (vDif a b (difI a b i).length N i) (hDif a b (difI a b i)) = some (.norm, vs1, h1) ∧ _
  rw [nfDif3]
  refine ⟨?_, ?_, ?_, ?_⟩
  rotate_left 2
  · simp only [e0, e5, bys_get, isIntV_byte, intV_byte]
    repeat (first | (refine (if_pos ?_).trans ?_; · first | (refine ⟨?_, ?_, ?_⟩ <;> first | rfl | omega) | (refine ⟨rfl, ?_, ?_, rfl, rfl⟩ <;> first | (simp; done) | omega) | omega | (simp; done) | (simp; omega)))
    rfl
  · unfold stDif
    rw [difI_no hd]
    exact Gc.refl


def difN (a b : List UInt8) : Nat := max a.length b.length
theorem runDif {a b : List UInt8} (ha : a.length ≤ 1000000) (hb : b.length ≤ 1000000) : Runs Try.prog 11 [slB 0 a, slB 1 b] [farB a, farB b] (.sl (some (2, 0)) (difI a b (difN a b)).length 0 false) (hDif a b (difI a b (difN a b))) := by
  have hN : difN a b ≤ 10000000 := by unfold difN; omega
  have key : True → ∃ vs2 h2, Pre 2 (vDif0 a b (difN a b) 0) [farB a, farB b] vs2 h2 ∧ ∃ k, GReach (roundG Try.prog (deepT Try.prog [] 100 4) (lsT noT) DL mDif) 2 k vs2 h2 (.exit 0) (vDif a b (difI a b (difN a b)).length (difN a b) (difN a b)) (hDif a b (difI a b (difN a b))) := by
    intro _
    refine ⟨_, _, Pre.nil1 1 (.same _ _ _ (.same _ _ _ (.void _ _ _ (NRs.refl _)))) rfl, ?_⟩
    refine loop_T (stDif a b (difN a b)) (N := difN a b) (by simp) (fun i hi => ?_) ⟨_, _, _, (nfDifs a b _ _ _ _).trans (if_pos (by simp)), Gc.refl⟩
    by_cases h0 : i < a.length
    · by_cases h1 : i < b.length
      · by_cases h2 : byt a i = byt b i
        · exact ⟨_, stepDif3 hN hi h0 h1 h2⟩
        · exact ⟨_, stepDif2 hN hi h0 h1 h2⟩
      · exact ⟨_, stepDif1 hN hi h0 (by omega)⟩
    · exact ⟨_, stepDif0 hN hi (by omega)⟩
  have lp : loopsOf (bodyOf Try.prog 11) = [DL] := by kernel_rfl
  refine Runs.ofT (find_nil _) (F := 100) (n := 4) (pr := []) (only (k := 2) lp (fixP_T (find_nil _) (F := 100) (n := 4) (LS := noT) (noLoops (by kernel_rfl)) key)) ?_
  rw [nfDif]
  have e : ((if true = true then if (b.length : Int) > (a.length : Int) then (b.length : Int) else (a.length : Int) else if (b.length : Int) < (a.length : Int) then (b.length : Int) else (a.length : Int))) = ((difN a b : Nat) : Int) := by
    rw [if_pos rfl]; unfold difN; split <;> omega
  rw [e]
  exact if_pos (cdec_true.2 ⟨trivial, rfl, rfl⟩)

inductive DifR : List AV → AHeap → AV → AHeap → Prop
  | mk (x y : List UInt8) (h : AHeap) (a b : AV) (k : Nat) (ga : bOk h a = true ∧ bOf h a = x) (gb : bOk h b = true ∧ bOf h b = y) (hx : x.length ≤ 1000000) (hy : y.length ≤ 1000000) (l : List Int) (hl : difI x y (difN x y) = l) (hk : h.length = k) (n : Nat) (hn : l.length = n) :
      DifR [a, b] h (.sl (some (k, 0)) n 0 false) [.cells (l.map (AV.int .i64)) 1 .own none]
theorem sDif (L : List (Nat × AV × AHeap)) : SoundE Try.prog 11 (entF (eRel DifR L)) := by
  refine relR_sound (fun args h v new hR => ?_) L
  cases hR with
  | mk x y _ a b k ga gb hx hy l hl hk n hn =>
  subst hk hl hn
  obtain ⟨ga, rfl⟩ := ga
  obtain ⟨gb, rfl⟩ := gb
  exact ⟨[slB 0 (bOf h a), slB 1 (bOf h b)], [farB (bOf h a), farB (bOf h b)], .cons _ _ _ _ _ _ _ (bOk_canon ga 0) (.cons _ _ _ _ _ _ _ (bOk_canon gb 1) (.nil _)), _, _, runDif hx hy, [some 2], denRow (Nat.le_refl 2) rfl (by simp) (frees_ints _), ksOk1 _⟩

end Go.Proofs.Ytnchnjkakddhlaa.L
