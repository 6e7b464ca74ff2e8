/- FifoWalks' run. -/
import Derived.Test.YtdildbadafdbgaaFifoWalksN
import Derived.Test.YtdildbadafdbgaaAddrB
set_option autoImplicit false
set_option maxRecDepth 100000
set_option linter.unusedVariables false
set_option linter.unusedSimpArgs false
namespace Go.Proofs.Ytdildbadafdbgaa.L
open Go Go.Abs

def nmW (i : Nat) : List UInt8 := List.map byteD [AV.int IntKind.u8 (IntKind.u8.wrap (i : Int)), AV.int IntKind.u8 120]
theorem nmW_inj {i j : Nat} (hi : i < 200) (hj : j < 200) (h : nmW i = nmW j) : i = j := by
  unfold nmW at h
  rw [wrapU8 (by omega), wrapU8 (by omega)] at h
  simp only [List.map_cons, byteD, List.cons.injEq] at h
  have := congrArg UInt8.toNat h.1
  simp at this
  omega
def fwP (l : List Int) (n : Nat) : List (List UInt8 × Int) := (List.range n).map fun i => (nmW i, l.getD i 0)
@[simp] theorem fwP_length (l : List Int) (n : Nat) : (fwP l n).length = n := by simp [fwP]
theorem fwP_succ (l : List Int) (n : Nat) : fwP l (n + 1) = fwP l n ++ [(nmW n, l.getD n 0)] := by simp [fwP, List.range_succ]
theorem fwP_get {l : List Int} {n i : Nat} (h : i < n) : (fwP l n)[i]'(by simpa using h) = (nmW i, l.getD i 0) := by simp [fwP]
theorem ixNewW {l : List Int} {n : Nat} (hn : n ≤ 100) : ixIxsi (fwP l n) (nmW n) = -1 := by
  unfold ixIxsi atIxsi
  rw [if_neg]
  rw [List.findIdx_lt_length]
  rintro ⟨p, hp, he⟩
  simp only [fwP, List.mem_map, List.mem_range] at hp
  obtain ⟨i, hi, rfl⟩ := hp
  have := nmW_inj (by omega) (by omega) (of_decide_eq_true he)
  omega
def sFW (l : List Int) (m : Int) (i : Nat) : List AV × AHeap := (vFW1 l m i, hFWq l i 0 i (flS (fwP l i)))
theorem rowW {hp : AHeap} {l : List Int} {n : Nat} {md : Md} {par : Option Nat} (hk : hp[2]? = some (.cells (flS (fwP l n)) 2 md par)) : rowOk hp (.sl (some (2, 0)) n 0 false) 2 = true ∧ rowOf hp (.sl (some (2, 0)) n 0 false) = flS (fwP l n) := by
  constructor
  · simp [rowOk, hk]
  · simp only [rowOf, hk, List.drop_zero]; exact List.take_of_length_le (by simp)
theorem stepFW {l : List Int} {m : Int} {i : Nat} (hl : l.length ≤ 60) (hi : i < l.length) :
    ∃ vs1 h1, qround Try.prog (tFW 0 0 [] []) 100 5 [(31, .bool true), (48, .bool false)] noT FW1 mFW1 (sFW l m i).1 (sFW l m i).2 = some (.norm, vs1, h1) ∧ Gc 2 vs1 h1 (sFW l m (i + 1)).1 (sFW l m (i + 1)).2 := by
  have e0 : ((l.map (AV.int .i64))[0 + (i : Int).toNat * 1]?) = some (.int .i64 (l.getD i 0)) := by rw [show 0 + (i : Int).toNat * 1 = i by omega]; exact get_ints hi
  have e5 : IntKind.i64.wrap ((i : Int) + 1) = ((i + 1 : Nat) : Int) := by rw [wrapI64 (by omega)]; omega
  have lC : (flS (fwP l i)).length = i * 2 := by simp
  have tC : List.take (i * 2) (List.drop 0 (flS (fwP l i))) = flS (fwP l i) := by rw [List.drop_zero]; exact List.take_of_length_le (by omega)
  unfold sFW
  rw [nfFWa]
  have hr := rowW (l := l) (n := i) (md := .own) (par := none) (hp := hFWa0 l m i i 0 i (flS (fwP l i))) rfl
  have hI := RIxsi.mk (fwP l i) (nmW i) (hFWa0 l m i i 0 i (flS (fwP l i))) _ 4 .own none hr.1 hr.2 rfl (by simp; omega) (-1) (ixNewW (by omega))
  refine ⟨?_, ?_, ?_, ?_⟩
  rotate_left 2
  · simp only [e0, e5, intS, isI0]
    iterate 3 (refine (if_pos (by first | omega | (simp; done) | (simp [isIntV, isBoolV, isStrV, putCells, capOf]; done) | (simp; omega) | (simp [capOf]; omega))).trans ?_)
    refine (if_pos (cdec_true.2 (hI))).trans ?_
    refine (if_neg (by first | omega | (simp; done) | (simp [isIntV, isBoolV, isStrV, putCells, capOf]; done) | (simp; omega) | (simp [capOf]; omega))).trans ?_
    iterate 2 (refine (if_pos (by first | omega | (simp; done) | (simp [isIntV, isBoolV, isStrV, putCells, capOf]; done) | (simp; omega) | (simp [capOf]; omega))).trans ?_)
    refine (if_pos (by first | (simp only [wrapAL, wrapAR, wrapSL, wrapSR, bne_iff_ne, ne_eq, beq_iff_eq, decide_eq_true_eq, decide_eq_false_iff_not, beq_eq_false_iff_ne, bne_eq_false_iff_eq, Decidable.not_not, ge_iff_le, gt_iff_lt, Int.not_lt, Int.not_le]; done) | (simp only [wrapAL, wrapAR, wrapSL, wrapSR, bne_iff_ne, ne_eq, beq_iff_eq, decide_eq_true_eq, decide_eq_false_iff_not, beq_eq_false_iff_ne, bne_eq_false_iff_eq, Decidable.not_not, ge_iff_le, gt_iff_lt, Int.not_lt, Int.not_le]; omega) | (simp only [wrapAL, wrapAR, wrapSL, wrapSR, bne_iff_ne, ne_eq, beq_iff_eq, decide_eq_true_eq, decide_eq_false_iff_not, beq_eq_false_iff_ne, bne_eq_false_iff_eq, Decidable.not_not, ge_iff_le, gt_iff_lt, Int.not_lt, Int.not_le]; rw [wrapI64 (by omega)] <;> omega) | (simp only [wrapAL, wrapAR, wrapSL, wrapSR, bne_iff_ne, ne_eq, beq_iff_eq, decide_eq_true_eq, decide_eq_false_iff_not, beq_eq_false_iff_ne, bne_eq_false_iff_eq, Decidable.not_not, ge_iff_le, gt_iff_lt, Int.not_lt, Int.not_le]; rw [wrapI64 (by omega), wrapI64 (by omega)] <;> omega) | (simp; done) | (simp; omega))).trans ?_
    refine (if_pos (by first | omega | (simp; done) | (simp [isIntV, isBoolV, isStrV, putCells, capOf]; done) | (simp; omega) | (simp [capOf]; omega))).trans ?_
    refine (if_pos (AV.beq_self _)).trans ?_
    rfl
  · unfold hFWa2
    rw [e0, tC, intS, intS, e5]
    have hc : flS (fwP l i) ++ [AV.str (nmW i), AV.int .i64 (l.getD i 0)] = flS (fwP l (i + 1)) := by rw [fwP_succ]; simp [flS]
    have hf := frS (fwP l (i + 1))
    show Gc 2 _ [_, _, _, _, _, _, ABlk.cells (flS (fwP l i) ++ [AV.str (nmW i), AV.int .i64 (l.getD i 0)]) 2 Md.own (some 2)] _ _
    rw [hc]
    exact Gc.by [0, 1, 6] rfl (by decide) (.cons _ _ _ _ (.sl _ _ _ _ _ _ rfl) (.cons _ _ _ _ (.free _ rfl) (.cons _ _ _ _ (.ptr _ _ _ rfl) (.free _ rfl)))) (.cons _ _ _ _ _ rfl (.row (frees_ints _) (by simp)) (.cons _ _ _ _ _ rfl (.cells _ _ _ _ _ _ (.cons _ _ _ _ (.free _ rfl) (.cons _ _ _ _ (.free _ rfl) (.cons _ _ _ _ (.sl _ _ _ _ _ _ rfl) .nil))) (by simp)) (.cons _ _ _ _ _ rfl (BR.grown hf rfl) .nil)))

theorem itC_get : ∀ {P : List (List UInt8 × Int)} {i : Nat} (h : i < P.length), (itC P)[i * 3]? = some (.str P[i].1) ∧ (itC P)[i * 3 + 1]? = some (.int .i64 P[i].2) ∧ (itC P)[i * 3 + 2]? = some (.int .i64 0)
  | [], _, h => by simp at h
  | p :: P, 0, _ => ⟨rfl, rfl, rfl⟩
  | p :: P, i + 1, h => by
    have := itC_get (P := P) (i := i) (by simpa using h)
    have e : ∀ k, (itC (p :: P))[k + 3]? = (itC P)[k]? := fun k => rfl
    rw [show (i + 1) * 3 = i * 3 + 3 by omega, show i * 3 + 3 + 1 = i * 3 + 1 + 3 by omega, show i * 3 + 3 + 2 = i * 3 + 2 + 3 by omega, e, e, e]
    exact this
theorem drop_get {α : Type} (l : List α) (o j n : Nat) (h : j < n) : (List.take n (List.drop o l))[j]? = l[o + j]? := by
  rw [List.getElem?_take, if_pos h, List.getElem?_drop]
variable {l : List Int} {c : Nat}

theorem stepFWb {n i : Nat} (hl : l.length ≤ 60) (hi : i < l.length) (hn : n = l.length) (hcl : c ≤ n) (hc : i < c) :
    qround Try.prog [] 100 5 [(80, .bool true), (109, .bool true), (120, .bool false)] noT FW2 mFW2 (vFW2 l c n i) (hFWx l n 0 n (flS (fwP l n)) (itC ((fwP l n).take c)) (itC (fwP l n))) = some (.norm, vFW2 l c n ((i + 1 : Nat) : Int), hFWx l n 0 n (flS (fwP l n)) (itC ((fwP l n).take c)) (itC (fwP l n)) ++ [.cells [AV.int IntKind.u8 (IntKind.u8.wrap i), AV.int IntKind.u8 120] 1 .own none]) := by
  have e0 : ((l.map (AV.int .i64))[i]?) = some (.int .i64 (l.getD i 0)) := get_ints hi
  have e5 : IntKind.i64.wrap ((i : Int) + 1) = ((i + 1 : Nat) : Int) := by rw [wrapI64 (by omega)]; omega
  have lJ : (itC (fwP l n)).length = n * 3 := by simp
  obtain ⟨j0, j1, j2⟩ := itC_get (P := fwP l n) (i := i) (by simp; omega)
  rw [fwP_get (by omega)] at j0 j1
  have e1 : (i : Int).toNat = i := by omega
  have lI : (itC ((fwP l n).take c)).length = c * 3 := by rw [itC_length, List.length_take, fwP_length]; congr 1; omega
  obtain ⟨i0, i1, i2⟩ := itC_get (P := (fwP l n).take c) (i := i) (by rw [List.length_take, fwP_length]; omega)
  rw [List.getElem_take, fwP_get (by omega)] at i0 i1
  rw [nfFWb]
  unfold hFWb0
  simp only [e0, e5, e1, Nat.zero_add, Nat.add_zero, Nat.mul_one, drop_get _ _ 0 3 (by omega), drop_get _ _ 1 3 (by omega), drop_get _ _ 2 3 (by omega), j0, j1, j2, i0, i1, i2]
  iterate 5 (refine (if_pos (by first | omega | (simp; done) | (simp [isIntV, isBoolV, isStrV, putCells, capOf]; done) | (simp; omega) | (simp [capOf]; omega))).trans ?_)
  refine (if_neg (by simp [intV])).trans ?_
  iterate 2 (refine (if_pos (by first | omega | (simp; done) | (simp [isIntV, isBoolV, isStrV, putCells, capOf]; done) | (simp; omega) | (simp [capOf]; omega))).trans ?_)
  refine (if_neg (by simp [strV, nmW])).trans ?_
  iterate 11 (refine (if_pos (by first | omega | (simp; done) | (simp [isIntV, isBoolV, isStrV, putCells, capOf]; done) | (simp; omega) | (simp [capOf]; omega))).trans ?_)
  refine (if_pos (by simp)).trans ?_
  rfl

theorem stepFWc {n i : Nat} (hl : l.length ≤ 60) (hi : i < l.length) (hn : n = l.length) (hcl : c ≤ n) (hc : ¬ i < c) :
    qround Try.prog [] 100 5 [(80, .bool true), (109, .bool false), (120, .bool false)] noT FW2 mFW2 (vFW2 l c n i) (hFWx l n 0 n (flS (fwP l n)) (itC ((fwP l n).take c)) (itC (fwP l n))) = some (.norm, vFW2 l c n ((i + 1 : Nat) : Int), hFWx l n 0 n (flS (fwP l n)) (itC ((fwP l n).take c)) (itC (fwP l n)) ++ [.cells [AV.int IntKind.u8 (IntKind.u8.wrap i), AV.int IntKind.u8 120] 1 .own none]) := by
  have e0 : ((l.map (AV.int .i64))[i]?) = some (.int .i64 (l.getD i 0)) := get_ints hi
  have e5 : IntKind.i64.wrap ((i : Int) + 1) = ((i + 1 : Nat) : Int) := by rw [wrapI64 (by omega)]; omega
  have lJ : (itC (fwP l n)).length = n * 3 := by simp
  obtain ⟨j0, j1, j2⟩ := itC_get (P := fwP l n) (i := i) (by simp; omega)
  rw [fwP_get (by omega)] at j0 j1
  have e1 : (i : Int).toNat = i := by omega
  rw [nfFWc]
  unfold hFWc0
  simp only [e0, e5, e1, Nat.zero_add, Nat.add_zero, Nat.mul_one, drop_get _ _ 0 3 (by omega), drop_get _ _ 1 3 (by omega), drop_get _ _ 2 3 (by omega), j0, j1, j2]
  iterate 5 (refine (if_pos (by first | omega | (simp; done) | (simp [isIntV, isBoolV, isStrV, putCells, capOf]; done) | (simp; omega) | (simp [capOf]; omega))).trans ?_)
  refine (if_neg (by simp [intV])).trans ?_
  iterate 2 (refine (if_pos (by first | omega | (simp; done) | (simp [isIntV, isBoolV, isStrV, putCells, capOf]; done) | (simp; omega) | (simp [capOf]; omega))).trans ?_)
  refine (if_neg (by simp [strV, nmW])).trans ?_
  refine (if_pos (by first | omega | (simp; done) | (simp [isIntV, isBoolV, isStrV, putCells, capOf]; done) | (simp; omega) | (simp [capOf]; omega))).trans ?_
  rfl


theorem gcFW {l : List Int} {c n : Nat} {P Q : List (List UInt8 × Int)} {R : List (List UInt8 × Int)} {i : Int} {x : Int} {B : ABlk} : Gc 5 (vFW2 l c n i) (hFWx l x 0 n (flS P) (itC Q) (itC R) ++ [B]) (vFW2 l c n i) (hFWx l x 0 n (flS P) (itC Q) (itC R)) :=
  Gc.by [0, 1, 2, 3, 4] rfl (by decide) (.cons _ _ _ _ (.sl _ _ _ _ _ _ rfl) (.cons _ _ _ _ (.free _ rfl) (.cons _ _ _ _ (.sl _ _ _ _ _ _ rfl) (.cons _ _ _ _ (.sl _ _ _ _ _ _ rfl) (.free _ rfl))))) (.cons _ _ _ _ _ rfl (.row (frees_ints _) (by simp)) (.cons _ _ _ _ _ rfl (.cells _ _ _ _ _ _ (.cons _ _ _ _ (.free _ rfl) (.cons _ _ _ _ (.free _ rfl) (.cons _ _ _ _ (.sl _ _ _ _ _ _ rfl) .nil))) (by simp)) (.cons _ _ _ _ _ rfl (.row (frS P) (by simp)) (.cons _ _ _ _ _ rfl (.row (itC_frees Q) (by simp)) (.cons _ _ _ _ _ rfl (.row (itC_frees R) (by simp)) .nil)))))
theorem runFifoWalks (l : List Int) (m : Int) (hw : ∀ z ∈ l, (Lit.int .i64 z).wf = true) (hm : -9223372036854775808 ≤ m ∧ m < 9223372036854775808) :
    ∃ h', Runs Try.prog 6 [.sl (some (0, 0)) l.length 0 false, .int .i64 m] [farI l] (.bool true) h' := by
  by_cases hb : 60 < l.length
  · exact Runs.valT0 (tFWOk 0 0 [] []) (F := 100) (n := 5) (pr := [(16, .bool true)]) ((nfFWl l m _).trans (if_pos (by simp; omega)))
  have hl : l.length ≤ 60 := by omega
  obtain ⟨c, hc⟩ : ∃ c : Nat, m % ((l.length : Int) + 1) = c := ⟨(m % ((l.length : Int) + 1)).toNat, by have := Int.emod_nonneg m (show ((l.length : Int) + 1) ≠ 0 by omega); omega⟩
  have hcl : c ≤ l.length := by have := Int.emod_lt_of_pos m (show 0 < ((l.length : Int) + 1) by omega); omega
  have k1 : True → ∃ vs2 h2, Pre 2 (vFW1 l m 0) [farI l, .cells [.int .i64 60, .int .i64 0, .sl none 0 0 true] 3 .own none] vs2 h2 ∧ ∃ k, GReach (roundG Try.prog (deepT Try.prog (tFW 0 0 [] []) 100 5) (lsT noT) FW1 mFW1) 2 k vs2 h2 (.exit 0) (sFW l m l.length).1 (sFW l m l.length).2 := by
    intro _
    refine ⟨(sFW l m 0).1, (sFW l m 0).2, .void 2 _ _ _ _ _ _ (NRs.refl _) (.cons _ _ _ _ (.same _) (.cons _ _ _ _ (.cells _ _ _ _ _ (.same _ _ _ (.same _ _ _ (.void _ _ _ .nil)))) (.cons _ _ _ _ (.same _) .nil))) (.done _ _), ?_⟩
    exact loop_T (sFW l m) (N := l.length) (by simp) (fun i hi => ⟨_, stepFW hl hi⟩) ⟨_, _, _, (nfFWs l m _ _ _ _ _).trans (if_pos (by simp)), Gc.refl⟩
  have k2 : True → ∃ k, GReach (roundG Try.prog (deepT Try.prog [] 100 5) (lsT noT) FW2 mFW2) 5 k (vFW2 l c l.length 0) (hFWx l l.length 0 l.length (flS (fwP l l.length)) (itC ((fwP l l.length).take c)) (itC (fwP l l.length))) (.exit 2) (vFW2 l c l.length l.length) (hFWx l l.length 0 l.length (flS (fwP l l.length)) (itC ((fwP l l.length).take c)) (itC (fwP l l.length))) := by
    intro _
    refine loop_T (fun i => (vFW2 l c l.length i, hFWx l l.length 0 l.length (flS (fwP l l.length)) (itC ((fwP l l.length).take c)) (itC (fwP l l.length)))) (N := l.length) (by simp) (fun i hi => ?_) ⟨_, _, _, (nfFWt l l.length _ 0 l.length c l.length _ _ _).trans (if_pos (by simp)), Gc.refl⟩
    by_cases h : i < c
    · exact ⟨_, _, _, stepFWb hl hi rfl hcl h, gcFW⟩
    · exact ⟨_, _, _, stepFWc hl hi rfl hcl h, gcFW⟩
  have lp : loopsOf (bodyOf Try.prog 6) = [FW1, FW2] := by kernel_rfl
  have e1 : IntKind.i64.wrap ((l.length : Int) + 1) = (l.length : Int) + 1 := wrapI64 (by omega)
  have hcA : cntA (fwP l l.length).length c = c := by unfold cntA; rw [if_neg (by omega), fwP_length]; omega
  have hcB : cntA (fwP l l.length).length (-1) = l.length := by unfold cntA; rw [if_pos (by omega), fwP_length]
  have hr := fun (hp : AHeap) (hk : hp[2]? = some (.cells (flS (fwP l l.length)) 2 .own none)) => rowW (l := l) (n := l.length) (md := .own) (par := none) (hp := hp) hk
  have hll : ((fwP l l.length).length) ≤ 1000000 := by rw [fwP_length]; omega
  have hJ : itC ((fwP l l.length).take l.length) = itC (fwP l l.length) := by rw [List.take_of_length_le (by simp)]
  refine Runs.valT (tFWOk l.length c (itC ((fwP l l.length).take c)) (itC (fwP l l.length))) (F := 100) (n := 5) (pr := [(16, .bool false), (27, .bool false), (76, .bool false)]) (both (k := 7) (k2 := 17) lp (by kernel_rfl) (by kernel_rfl) (by decide) (fixP_T (tFWOk 0 0 [] []) (F := 100) (n := 5) (LS := noT) (noLoops (by kernel_rfl)) k1) (fixC_T (find_nil _) (F := 100) (n := 5) (LS := noT) (noLoops (by kernel_rfl)) k2)) ?_
  dsimp only [sFW]
  refine (nfFWm l m l.length 0 l.length c l.length _ _ _ True _).trans ?_
  rw [e1, hc]
  refine (if_pos (by simp; omega)).trans ?_
  refine (if_pos (cdec_true.2 ⟨trivial, rfl, rfl⟩)).trans ?_
  refine (if_pos (by simp; omega)).trans ?_
  refine (if_pos (cdec_true.2 (AllR.mk (fwP l l.length) c _ _ _ 1 _ .own 3 none _ rfl rfl (hr _ rfl).1 (hr _ rfl).2 hll (by omega) c hcA rfl _ rfl))).trans ?_
  refine (if_pos (cdec_true.2 (AllR.mk (fwP l l.length) (-1) _ _ _ 1 _ .own 3 none _ rfl rfl (hr _ rfl).1 (hr _ rfl).2 hll (by omega) l.length hcB rfl _ hJ))).trans ?_
  refine (if_neg (by simp)).trans ?_
  refine (if_neg (by simp)).trans ?_
  refine (if_pos (by simp)).trans ?_
  exact if_pos (cdec_true.2 ⟨trivial, rfl, rfl⟩)

end Go.Proofs.Ytdildbadafdbgaa.L
