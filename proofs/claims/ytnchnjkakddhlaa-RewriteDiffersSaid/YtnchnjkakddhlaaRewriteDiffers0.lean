/- RewriteDiffers' run. -/
import Derived.Test.YtnchnjkakddhlaaRewriteDiffersN
set_option autoImplicit false
set_option maxRecDepth 100000
set_option linter.unusedVariables false
set_option linter.unusedSimpArgs false
namespace Go.Proofs.Ytnchnjkakddhlaa.L
open Go Go.Abs

def rdk (a : List UInt8) (z : List Int) (i : Nat) : Nat := (z.getD i 0 % (a.length : Int)).toNat
def rdB (a : List UInt8) (z : List Int) : Nat → List UInt8
  | 0 => a
  | i + 1 => (rdB a z i).set (rdk a z i) (u8i (255 - byt a (rdk a z i)))
def rdT (a : List UInt8) (z : List Int) : Nat → List Bool
  | 0 => List.replicate a.length false
  | i + 1 => (rdT a z i).set (rdk a z i) true
theorem rdB_length (a : List UInt8) (z : List Int) : ∀ i, (rdB a z i).length = a.length
  | 0 => rfl
  | i + 1 => by simp [rdB, rdB_length a z i]
theorem rdT_length (a : List UInt8) (z : List Int) : ∀ i, (rdT a z i).length = a.length
  | 0 => by simp [rdT]
  | i + 1 => by simp [rdT, rdT_length a z i]
theorem rdk_lt {a : List UInt8} (z : List Int) (i : Nat) (h : 0 < a.length) : rdk a z i < a.length := by
  unfold rdk
  have h1 := Int.emod_nonneg (z.getD i 0) (show (a.length : Int) ≠ 0 by omega)
  have h2 := Int.emod_lt_of_pos (z.getD i 0) (show 0 < (a.length : Int) by omega)
  omega
theorem getD_set {T : List Bool} {k j : Nat} {b : Bool} (hk : k < T.length) : (T.set k b).getD j false = if j = k then b else T.getD j false := by
  simp only [List.getD, List.getElem?_set]
  by_cases h : k = j
  · subst h; simp [hk]
  · rw [if_neg h, if_neg (Ne.symm h)]
theorem rd_inv {a : List UInt8} (z : List Int) (h : 0 < a.length) (j : Nat) : ∀ i, byt (rdB a z i) j = if (rdT a z i).getD j false = true then 255 - byt a j else byt a j
  | 0 => by
    have : (rdT a z 0).getD j false = false := by
      simp only [rdT, List.getD, List.getElem?_replicate]
      split <;> rfl
    rw [this]; rfl
  | i + 1 => by
    have hk := rdk_lt z i h
    have r := byt_range a (rdk a z i)
    rw [rdB, rdT, byt_set (by rw [rdB_length]; exact hk), getD_set (by rw [rdT_length]; exact hk), rd_inv z h j i]
    by_cases hj : j = rdk a z i
    · subst hj
      rw [if_pos rfl, if_pos rfl, if_pos rfl, u8i_toNat]; omega
    · rw [if_neg hj, if_neg hj]
theorem not8 {x : Int} (h : 0 ≤ x ∧ x < 256) : abits .u8 (· ^^^ ·) 255 x = 255 - x := by
  rw [xor8 (by omega) h]
  have key : ∀ y : Fin 256, (255 ^^^ y.val : Nat) = 255 - y.val := by decide +kernel
  have := key ⟨x.toNat, by omega⟩
  show ((255 ^^^ x.toNat : Nat) : Int) = _
  simp only at this
  rw [this]; omega
theorem put_bool (T : List Bool) (k : Nat) (b : Bool) : putCells (T.map AV.bool) k [.bool b] = (T.set k b).map AV.bool := by simp [putCells, List.map_set]
def rdW (T : List Bool) (c n : Nat) : List Int := ((List.range n).filter fun i => T.getD i false || decide (c ≤ i)).map fun i : Nat => (i : Int)
theorem rdW_yes {T : List Bool} {c n : Nat} (h : (T.getD n false || decide (c ≤ n)) = true) : rdW T c (n + 1) = rdW T c n ++ [(n : Int)] := by
  unfold rdW; rw [List.range_succ, List.filter_append, List.map_append]; simp only [List.filter_cons, h, if_true, List.filter_nil, List.map_cons, List.map_nil]
theorem rdW_no {T : List Bool} {c n : Nat} (h : (T.getD n false || decide (c ≤ n)) = false) : rdW T c (n + 1) = rdW T c n := by
  unfold rdW; rw [List.range_succ, List.filter_append, List.map_append]; simp only [List.filter_cons, h, Bool.false_eq_true, if_false, List.filter_nil, List.map_nil, List.append_nil]
theorem rdW_len (T : List Bool) (c n : Nat) : (rdW T c n).length ≤ n := by
  unfold rdW; rw [List.length_map]; exact Nat.le_trans (List.length_filter_le _ _) (by simp)
theorem difI_comm (a b : List UInt8) (n : Nat) : difI a b n = difI b a n := by
  unfold difI
  congr 1
  apply List.filter_congr
  intro i _
  unfold difB
  rw [Bool.or_comm (decide (a.length ≤ i))]
  congr 1
  by_cases h : byt a i = byt b i
  · simp [h]
  · simp [h, Ne.symm h]
theorem difN_comm (a b : List UInt8) : difN a b = difN b a := by unfold difN; omega
theorem difI_self (a : List UInt8) : difI a a (difN a a) = [] := by
  unfold difI
  have : (List.range (difN a a)).filter (difB a a) = [] := by
    apply List.filter_eq_nil_iff.2
    intro i hi
    simp only [List.mem_range, difN] at hi
    simp [difB]; omega
  rw [this]; rfl
theorem dif_rd {a : List UInt8} {z : List Int} {c : Nat} (hc : c ≤ a.length) (h : 0 < a.length) (m : Nat) : difI a ((rdB a z m).take c) (difN a ((rdB a z m).take c)) = rdW (rdT a z m) c a.length := by
  have hl : ((rdB a z m).take c).length = c := by rw [List.length_take, rdB_length]; omega
  have hN : difN a ((rdB a z m).take c) = a.length := by unfold difN; rw [hl]; omega
  rw [hN]
  unfold difI rdW
  congr 1
  apply List.filter_congr
  intro i hi
  simp only [List.mem_range] at hi
  have r := byt_range a i
  have inv := rd_inv z h i m
  unfold difB
  rw [hl, decide_eq_false (show ¬ a.length ≤ i by omega), Bool.false_or]
  by_cases hic : c ≤ i
  · simp [hic]
  · rw [byt_take (by omega), inv]
    cases hT : (rdT a z m).getD i false
    · simp [hic]
    · simp [hic]; omega

theorem stepRD1 {a : List UInt8} {z : List Int} {c : Int} {i : Nat} (ha : a.length ≤ 300) (h0 : 0 < a.length) (hz : z.length ≤ 20) (hi : i < z.length) :
    qround Try.prog (tRD []) 100 4 [(42, .bool true)] noT RL1 mRD1 (vRD1 a z c i) (hRD1 a (rdB a z i) z (rdT a z i)) = some (.norm, vRD1 a z c ((i + 1 : Nat) : Int), hRD1 a (rdB a z (i + 1)) z (rdT a z (i + 1))) := by
  rw [nfRDx]
  have e0 : 0 + (i : Int).toNat * 1 = i := by omega
  have e5 : IntKind.i64.wrap ((i : Int) + 1) = ((i + 1 : Nat) : Int) := by rw [wrapI64 (by omega)]; omega
  have hk := rdk_lt z i h0
  have ek : z.getD i 0 % (a.length : Int) = (rdk a z i : Int) := by
    unfold rdk
    have := Int.emod_nonneg (z.getD i 0) (show (a.length : Int) ≠ 0 by omega)
    omega
  have e1 : 0 + ((rdk a z i : Nat) : Int).toNat * 1 = rdk a z i := by omega
  have r := byt_range a (rdk a z i)
  have eB := rdB_length a z i
  have eT := rdT_length a z i
  unfold hRDx0
  rw [e0, get_ints hi, e5]
  simp only [show ∀ x, intV (some (AV.int IntKind.i64 x)) = x from fun _ => rfl, ek, e1, bys_get, isIntV_byte, intV_byte, not8 r, putCells_byte' _ _ _ (show 0 ≤ 255 - byt a (rdk a z i) ∧ 255 - byt a (rdk a z i) < 256 by omega), put_bool]
  repeat (first | (refine (if_pos ?_).trans ?_; · first | omega | (simp [isIntV]; done) | (simp; omega)))
  rfl

theorem stepRD20 {a B : List UInt8} {z : List Int} {T : List Bool} {c i : Nat} (ha : a.length ≤ 300) (hl : T.length = a.length) (hi : i < a.length) (hT : T.getD i false = true) :
    ∃ vs1 h1, qround Try.prog [] 100 4 [(71, .bool true), (78, .bool true)] noT RL2 mRD2 (vRD2 a c (rdW T c i).length i) (hRD2 a B z T (rdW T c i)) = some (.norm, vs1, h1) ∧ Gc 5 vs1 h1 (vRD2 a c (rdW T c (i + 1)).length ((i + 1 : Nat) : Int)) (hRD2 a B z T (rdW T c (i + 1))) := by
  have hd : (T.getD i false || decide (c ≤ i)) = true := by rw [hT]; rfl
  have hn := rdW_len T c i
  have e0 : 0 + (i : Int).toNat * 1 = i := by omega
  have e5 : IntKind.i64.wrap ((i : Int) + 1) = ((i + 1 : Nat) : Int) := by rw [wrapI64 (by omega)]; omega
  have eT : (T.map AV.bool)[i]? = some (.bool (T.getD i false)) := by simp [List.getElem?_eq_getElem (show i < T.length by omega), List.getD]
  rw [nfRD20]
  refine ⟨?_, ?_, ?_, ?_⟩
  rotate_left 2
  · rw [e0, eT, hT, e5]
    repeat (first | (refine (if_pos ?_).trans ?_; · first | (refine ⟨?_, ?_, ?_⟩ <;> first | rfl | omega) | (refine ⟨rfl, ?_, ?_, rfl, rfl⟩ <;> first | (simp; done) | omega) | omega | (simp [isBoolV, boolV]; done) | (simp; omega)))
    rfl
  · unfold hRD200
    rw [rdW_yes hd]
    have et : List.take ((rdW T c i).length * 1) (List.map (AV.int IntKind.i64) (rdW T c i)) ++ [AV.int IntKind.i64 i] = (rdW T c i ++ [(i : Int)]).map (AV.int .i64) := by
      rw [Nat.mul_one, List.take_of_length_le (by simp)]; simp
    rw [et, show (rdW T c i).length + 1 = (rdW T c i ++ [(i : Int)]).length by simp]
    exact Gc.by [0, 1, 2, 3, 4, 7] rfl (by decide) (.cons _ _ _ _ (.sl _ _ _ _ _ _ rfl) (.cons _ _ _ _ (.sl _ _ _ _ _ _ rfl) (.cons _ _ _ _ (.sl _ _ _ _ _ _ rfl) (.cons _ _ _ _ (.free _ rfl) (.cons _ _ _ _ (.sl _ _ _ _ _ _ rfl) (.free _ rfl)))))) (.cons _ _ _ _ _ rfl (.row (by simp) (by simp)) (.cons _ _ _ _ _ rfl (.row (frees_ints _) (by simp)) (.cons _ _ _ _ _ rfl (.row rfl (by simp)) (.cons _ _ _ _ _ rfl (.row (by simp) (by simp)) (.cons _ _ _ _ _ rfl (.row (frees_bools _) (by simp)) (.cons _ _ _ _ _ rfl (BR.grown (frees_ints _) rfl) .nil))))))

theorem stepRD21 {a B : List UInt8} {z : List Int} {T : List Bool} {c i : Nat} (ha : a.length ≤ 300) (hl : T.length = a.length) (hi : i < a.length) (hT : T.getD i false = false) (hc : c ≤ i) :
    ∃ vs1 h1, qround Try.prog [] 100 4 [(71, .bool true), (78, .bool false), (81, .bool true)] noT RL2 mRD2 (vRD2 a c (rdW T c i).length i) (hRD2 a B z T (rdW T c i)) = some (.norm, vs1, h1) ∧ Gc 5 vs1 h1 (vRD2 a c (rdW T c (i + 1)).length ((i + 1 : Nat) : Int)) (hRD2 a B z T (rdW T c (i + 1))) := by
  have hd : (T.getD i false || decide (c ≤ i)) = true := by rw [hT]; simp [hc]
  have hn := rdW_len T c i
  have e0 : 0 + (i : Int).toNat * 1 = i := by omega
  have e5 : IntKind.i64.wrap ((i : Int) + 1) = ((i + 1 : Nat) : Int) := by rw [wrapI64 (by omega)]; omega
  have eT : (T.map AV.bool)[i]? = some (.bool (T.getD i false)) := by simp [List.getElem?_eq_getElem (show i < T.length by omega), List.getD]
  rw [nfRD21]
  refine ⟨?_, ?_, ?_, ?_⟩
  rotate_left 2
  · rw [e0, eT, hT, e5]
    repeat (first | (refine (if_pos ?_).trans ?_; · first | (refine ⟨?_, ?_, ?_⟩ <;> first | rfl | omega) | (refine ⟨rfl, ?_, ?_, rfl, rfl⟩ <;> first | (simp; done) | omega) | omega | (simp [isBoolV, boolV]; done) | (simp; omega)))
    rfl
  · unfold hRD210
    rw [rdW_yes hd]
    have et : List.take ((rdW T c i).length * 1) (List.map (AV.int IntKind.i64) (rdW T c i)) ++ [AV.int IntKind.i64 i] = (rdW T c i ++ [(i : Int)]).map (AV.int .i64) := by
      rw [Nat.mul_one, List.take_of_length_le (by simp)]; simp
    rw [et, show (rdW T c i).length + 1 = (rdW T c i ++ [(i : Int)]).length by simp]
    exact Gc.by [0, 1, 2, 3, 4, 7] rfl (by decide) (.cons _ _ _ _ (.sl _ _ _ _ _ _ rfl) (.cons _ _ _ _ (.sl _ _ _ _ _ _ rfl) (.cons _ _ _ _ (.sl _ _ _ _ _ _ rfl) (.cons _ _ _ _ (.free _ rfl) (.cons _ _ _ _ (.sl _ _ _ _ _ _ rfl) (.free _ rfl)))))) (.cons _ _ _ _ _ rfl (.row (by simp) (by simp)) (.cons _ _ _ _ _ rfl (.row (frees_ints _) (by simp)) (.cons _ _ _ _ _ rfl (.row rfl (by simp)) (.cons _ _ _ _ _ rfl (.row (by simp) (by simp)) (.cons _ _ _ _ _ rfl (.row (frees_bools _) (by simp)) (.cons _ _ _ _ _ rfl (BR.grown (frees_ints _) rfl) .nil))))))

theorem stepRD22 {a B : List UInt8} {z : List Int} {T : List Bool} {c i : Nat} (ha : a.length ≤ 300) (hl : T.length = a.length) (hi : i < a.length) (hT : T.getD i false = false) (hc : ¬ c ≤ i) :
    ∃ vs1 h1, qround Try.prog [] 100 4 [(71, .bool true), (78, .bool false), (81, .bool false)] noT RL2 mRD2 (vRD2 a c (rdW T c i).length i) (hRD2 a B z T (rdW T c i)) = some (.norm, vs1, h1) ∧ Gc 5 vs1 h1 (vRD2 a c (rdW T c (i + 1)).length ((i + 1 : Nat) : Int)) (hRD2 a B z T (rdW T c (i + 1))) := by
  have hd : (T.getD i false || decide (c ≤ i)) = false := by rw [hT]; simp [hc]
  have hn := rdW_len T c i
  have e0 : 0 + (i : Int).toNat * 1 = i := by omega
  have e5 : IntKind.i64.wrap ((i : Int) + 1) = ((i + 1 : Nat) : Int) := by rw [wrapI64 (by omega)]; omega
  have eT : (T.map AV.bool)[i]? = some (.bool (T.getD i false)) := by simp [List.getElem?_eq_getElem (show i < T.length by omega), List.getD]
  rw [nfRD22]
  refine ⟨?_, ?_, ?_, ?_⟩
  rotate_left 2
  · rw [e0, eT, hT, e5]
    repeat (first | (refine (if_pos ?_).trans ?_; · first | (refine ⟨?_, ?_, ?_⟩ <;> first | rfl | omega) | (refine ⟨rfl, ?_, ?_, rfl, rfl⟩ <;> first | (simp; done) | omega) | omega | (simp [isBoolV, boolV]; done) | (simp; omega)))
    rfl
  · rw [rdW_no hd]
    exact Gc.refl


theorem runRewriteDiffers (a : List UInt8) (z : List Int) (c : Int) (_ : a.length ≤ maxLen) (hz0 : ∀ x ∈ z, (Lit.int .i64 x).wf = true) (_ : -9223372036854775808 ≤ c ∧ c < 9223372036854775808) : ∃ h', Runs Try.prog 6 [slB 0 a, slI 1 z.length, .int .i64 c] [farB a, intsB .far z] (.bool true) h' := by
  by_cases h1 : 300 < a.length ∨ 20 < z.length
  · refine Runs.valT0 tRDnOk (F := 100) (n := 4) (pr := [(21, .bool true)]) ((nfRDl a z c _).trans ?_)
    by_cases h2 : 300 < a.length
    · refine (if_pos (by simp; omega)).trans ?_
      rfl
    · refine (if_neg (by simp; omega)).trans ?_
      exact if_pos (by simp; omega)
  by_cases h0 : a.length = 0
  · obtain rfl := List.eq_nil_of_length_eq_zero h0
    refine Runs.valT0 tRDnOk (F := 100) (n := 4) (pr := [(21, .bool false)]) ((nfRDz z c _).trans ?_)
    refine (if_pos (by simp; omega)).trans ?_
    exact if_pos (cdec_true.2 (DifR.mk [] [] _ _ _ _ (bOk_far (l := []) rfl) ⟨rfl, rfl⟩ (by simp) (by simp) [] (difI_self []) rfl _ rfl))
  have h3 : a.length ≤ 300 := by omega
  have h4 : z.length ≤ 20 := by omega
  have hp : 0 < a.length := by omega
  obtain ⟨n, hn⟩ : ∃ n : Nat, c % ((a.length : Int) + 1) = n := ⟨(c % ((a.length : Int) + 1)).toNat, by have := Int.emod_nonneg c (show ((a.length : Int) + 1) ≠ 0 by omega); omega⟩
  have hnl : n ≤ a.length := by have := Int.emod_lt_of_pos c (show 0 < ((a.length : Int) + 1) by omega); omega
  have lp : loopsOf (bodyOf Try.prog 6) = [RL1, RL2] := by kernel_rfl
  have ew : (rdW (rdT a z z.length) n a.length).length ≤ 300 := Nat.le_trans (rdW_len _ _ _) h3
  have k1 : True → ∃ vs2 h2, Pre 5 (vRD1 a z c 0) (hRD0 a z) vs2 h2 ∧ ∃ k, GReach (roundG Try.prog (deepT Try.prog (tRD []) 100 4) (lsT noT) RL1 mRD1) 5 k vs2 h2 (.exit 0) (vRD1 a z c z.length) (hRD1 a (rdB a z z.length) z (rdT a z z.length)) := by
    intro _
    have eh : hRD0 a z = [farB a, intsB .far z, .cells [] 1 .ro none, .cells (bys a) 1 .own (some 2), .cells ((List.replicate a.length false).map AV.bool) 1 .own none] := by
      unfold hRD0
      rw [Nat.mul_one, List.take_of_length_le (by simp), Int.toNat_natCast, zrep_bool]
    refine ⟨vRD1 a z c 0, hRD1 a a z (List.replicate a.length false), ?_, loop_T (fun i => (vRD1 a z c i, hRD1 a (rdB a z i) z (rdT a z i))) (N := z.length) (by simp) (fun i hi => ⟨_, _, _, stepRD1 h3 hp h4 hi, Gc.refl⟩) ⟨_, _, _, (nfRD1s a _ z _ c _).trans (if_pos (by simp)), Gc.refl⟩⟩
    rw [eh]
    exact .orphan 3 2 1 .own (bys a) _ _ _ _ _ rfl (fun b hb => by cases hb; rfl) rfl (.done _ _)
  have k2 : True → ∃ vs2 h2, Pre 5 (vRD20 a n 0) (hRD1 a (rdB a z z.length) z (rdT a z z.length)) vs2 h2 ∧ ∃ k, GReach (roundG Try.prog (deepT Try.prog [] 100 4) (lsT noT) RL2 mRD2) 5 k vs2 h2 (.exit 2) (vRD2 a n (rdW (rdT a z z.length) n a.length).length a.length) (hRD2 a (rdB a z z.length) z (rdT a z z.length) (rdW (rdT a z z.length) n a.length)) := by
    intro _
    refine ⟨_, _, Pre.nil1 1 (.same _ _ _ (.same _ _ _ (.same _ _ _ (.same _ _ _ (.void _ _ _ (NRs.refl _)))))) rfl, ?_⟩
    refine loop_T (fun i => (vRD2 a n (rdW (rdT a z z.length) n i).length i, hRD2 a (rdB a z z.length) z (rdT a z z.length) (rdW (rdT a z z.length) n i))) (N := a.length) (by simp) (fun i hi => ?_) ⟨_, _, _, (nfRD2s a _ z _ _ _ _ _).trans (if_pos (by simp)), Gc.refl⟩
    cases hT : (rdT a z z.length).getD i false
    · by_cases hc : n ≤ i
      · exact ⟨_, stepRD21 h3 (rdT_length _ _ _) hi hT hc⟩
      · exact ⟨_, stepRD22 h3 (rdT_length _ _ _) hi hT hc⟩
    · exact ⟨_, stepRD20 h3 (rdT_length _ _ _) hi hT⟩
  refine Runs.valT (tRDOk (rdW (rdT a z z.length) n a.length)) (F := 100) (n := 4) (pr := [(21, .bool false), (25, .bool false)]) (both (k := 8) (k2 := 16) lp (by kernel_rfl) (by kernel_rfl) (by decide) (fixP_T (tRDOk []) (F := 100) (n := 4) (LS := noT) (noLoops (by kernel_rfl)) k1) (fixP_T (find_nil _) (F := 100) (n := 4) (LS := noT) (noLoops (by kernel_rfl)) k2)) ?_
  rw [nfRDm]
  have e1 : IntKind.i64.wrap ((a.length : Int) + 1) = (a.length : Int) + 1 := wrapI64 (by omega)
  have ga := fun (h : AHeap) (hh : h[0]? = some (farB a)) => bOk_far (h := h) (k := 0) (l := a) hh
  have gb := fun (h : AHeap) (r : Nat) (hh : h[3]? = some (ownB (rdB a z z.length))) => bOk_part (h := h) (k := 3) (o := 0) (n := n) (r := r) (e := false) (l := rdB a z z.length) hh rfl (by rw [rdB_length]; omega)
  have ed := dif_rd (z := z) hnl hp z.length
  have tl : ((rdB a z z.length).take n).length = n := by rw [List.length_take, rdB_length]; omega
  rw [e1, hn]
  refine (if_neg (by simp; omega)).trans ?_
  refine (if_pos (by simp; omega)).trans ?_
  refine (if_pos (beq_eq_false_iff_ne.2 (by omega))).trans ?_
  refine (if_pos (by simp)).trans ?_
  refine (if_pos ⟨by omega, rfl, by omega⟩).trans ?_
  refine (if_pos ⟨rfl, rfl, .inr rfl, rfl, by simp⟩).trans ?_
  refine (if_pos ⟨rfl, by decide, by omega, by omega, by omega, by omega⟩).trans ?_
  refine (if_pos (cdec_true.2 ⟨trivial, by simp, rfl⟩)).trans ?_
  refine (if_pos (by simp; omega)).trans ?_
  refine (if_pos (cdec_true.2 ⟨trivial, rfl, rfl⟩)).trans ?_
  refine (if_pos (by simp [capOf]; omega)).trans ?_
  refine (if_pos (cdec_true.2 (DifR.mk _ _ _ _ _ _ (ga _ rfl) (gb _ _ rfl) (by omega) (by simp; omega) _ (by simpa using ed) rfl _ rfl))).trans ?_
  refine (if_pos (cdec_true.2 (IntsR.mk _ _ _ _ (rowI_blk rfl rfl) (rowI_blk rfl rfl) (by omega)))).trans ?_
  refine (if_pos (by simp [capOf]; omega)).trans ?_
  refine (if_pos (cdec_true.2 (DifR.mk _ _ _ _ _ _ (gb _ _ rfl) (ga _ rfl) (by simp; omega) (by omega) _ (by rw [difI_comm, difN_comm]; simpa using ed) rfl _ rfl))).trans ?_
  refine (if_pos (cdec_true.2 (IntsR.mk _ _ _ _ (rowI_blk rfl rfl) (rowI_blk rfl rfl) (by omega)))).trans ?_
  exact if_pos (cdec_true.2 (DifR.mk _ _ _ _ _ _ (ga _ rfl) (ga _ rfl) (by omega) (by omega) [] (difI_self a) rfl _ rfl))

end Go.Proofs.Ytnchnjkakddhlaa.L
