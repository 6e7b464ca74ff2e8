/- slices.DeleteFunc over DIPs: its contract. -/
import Derived.Test.YtpghomcohejejaaDelN
import Derived.Test.YtpghomcohejejaaReKit
set_option autoImplicit false
set_option maxRecDepth 100000
set_option linter.unusedVariables false
set_option linter.unusedSimpArgs false
namespace Go.Proofs.Ytpghomcohejejaa.L
open Go Go.Abs

def dipZ : List AV := [.bool false, .int .u8 0, .int .u8 0, .int .u8 0, .int .u8 0, .int .u8 0, .int .u8 0, .int .u8 0, .int .u8 0, .int .u8 0, .int .u8 0, .int .u8 0, .int .u8 0, .int .u8 0, .int .u8 0, .int .u8 0, .int .u8 0, .int .u16 0]
theorem zrep_frees {zc : List AV} (h : AV.frees zc = true) : ∀ n, AV.frees (zrep n zc) = true
  | 0 => rfl
  | n + 1 => by
    have := zrep_frees h n
    unfold zrep at this ⊢
    rw [List.replicate_succ, List.flatten_cons]
    exact frees_append h this
theorem zrep_length (zc : List AV) (n : Nat) : (zrep n zc).length = n * zc.length := by simp [zrep]
theorem zrep_succ (zc : List AV) (n : Nat) : zrep (n + 1) zc = zc ++ zrep n zc := by simp [zrep, List.replicate_succ]
def rowD (l : List DipC) (z : Nat) : List AV := dipsC l ++ zrep z dipZ
theorem rowD_length (l : List DipC) (z : Nat) : (rowD l z).length = (l.length + z) * 18 := by
  unfold rowD; rw [List.length_append, dipsC_length, zrep_length, Nat.add_mul]; rfl
theorem rowD_frees (l : List DipC) (z : Nat) : AV.frees (rowD l z) = true := frees_append (dipsC_frees l) (zrep_frees rfl z)
theorem rowD_at {l : List DipC} {z i : Nat} (h : i < l.length) : ((rowD l z).drop (i * 18)).take 18 = l[i].cells := by
  unfold rowD
  rw [List.drop_append_of_le_length (by rw [dipsC_length]; omega), List.take_append_of_le_length (by rw [List.length_drop, dipsC_length]; omega)]
  exact dipsC_at h
theorem rowD_set {l : List DipC} {z i : Nat} (h : i < l.length) (x : DipC) : putCells (rowD l z) (i * 18) x.cells = rowD (l.set i x) z := by
  unfold rowD
  rw [putCells_at _ _ _ (by rw [List.length_append, dipsC_length, DipC.cells_length]; omega), ← dipsC_set h, putCells_at _ _ _ (by rw [dipsC_length, DipC.cells_length]; omega)]
  rw [List.take_append_of_le_length (by rw [dipsC_length]; omega), List.drop_append_of_le_length (by rw [dipsC_length, DipC.cells_length]; omega)]
  simp
theorem rowD_take {l : List DipC} {z : Nat} : (rowD l z).take (l.length * 18) = dipsC l := by
  unfold rowD; exact List.take_left' (dipsC_length l)
theorem rowD_clear {l : List DipC} {x : DipC} {z : Nat} : putCells (rowD (l ++ [x]) z) (l.length * 18) (zrep 1 dipZ) = rowD l (z + 1) := by
  have e : rowD (l ++ [x]) z = dipsC l ++ x.cells ++ zrep z dipZ := by unfold rowD; rw [dipsC_append]; simp [dipsC]
  rw [e, putCells_at _ _ _ (by simp [zrep, dipZ]), zrep_succ]
  unfold rowD
  have e1 : List.take (l.length * 18) (dipsC l ++ x.cells ++ zrep z dipZ) = dipsC l := by
    rw [List.append_assoc]; exact List.take_left' (dipsC_length l)
  have e2 : List.drop (l.length * 18 + (dipZ ++ zrep 0 dipZ).length) (dipsC l ++ x.cells ++ zrep z dipZ) = zrep z dipZ := List.drop_left' (by simp [zrep, dipZ])
  rw [e1, e2, zrep_succ]
  simp [zrep]

def shD (l : List DipC) (i j : Nat) : List DipC := (l.eraseIdx i).take j ++ l.drop j
theorem shD_get {l : List DipC} {i j : Nat} (hi : i < l.length) (hj : j < l.length) (k : Nat) : (shD l i j)[k]? = if k < j then (if k < i then l[k]? else l[k + 1]?) else l[k]? := by
  unfold shD
  have e : ((l.eraseIdx i).take j).length = j := by rw [List.length_take, List.length_eraseIdx, if_pos hi]; omega
  rw [List.getElem?_append, e]
  by_cases hk : k < j
  · rw [if_pos hk, if_pos hk, List.getElem?_take, if_pos hk, List.getElem?_eraseIdx]
  · rw [if_neg hk, if_neg hk, List.getElem?_drop, show j + (k - j) = k by omega]
theorem shD_length {l : List DipC} {i j : Nat} (hi : i < l.length) (hj : j < l.length) : (shD l i j).length = l.length := by
  unfold shD; rw [List.length_append, List.length_take, List.length_drop, List.length_eraseIdx, if_pos hi]; omega
theorem shD_0 {l : List DipC} {i : Nat} (hi : i < l.length) : shD l i i = l := by
  apply List.ext_getElem?
  intro k
  rw [shD_get hi hi]
  by_cases h : k < i
  · rw [if_pos h, if_pos h]
  · rw [if_neg h]
theorem shD_step {l : List DipC} {i j : Nat} (hi : i ≤ j) (hj : j + 1 < l.length) : (shD l i j).set j l[j + 1] = shD l i (j + 1) := by
  apply List.ext_getElem?
  intro k
  rw [List.getElem?_set, shD_get (by omega) (by omega), shD_get (by omega) hj, shD_length (by omega) (by omega)]
  by_cases h : j = k
  · subst h
    rw [if_pos rfl, if_pos (by omega), if_pos (by omega), if_neg (by omega), List.getElem?_eq_getElem hj]
  · rw [if_neg h]
    by_cases h2 : k < j
    · rw [if_pos h2, if_pos (by omega : k < j + 1)]
    · rw [if_neg h2, if_neg (by omega)]
theorem shD_end {l : List DipC} {i n : Nat} (hi : i < l.length) (hn : l.length = n + 1) : ∃ x, shD l i n = l.eraseIdx i ++ [x] := by
  refine ⟨l[n]'(by omega), ?_⟩
  unfold shD
  rw [List.take_of_length_le (by rw [List.length_eraseIdx, if_pos hi]; omega), List.drop_eq_getElem_cons (by omega), List.drop_of_length_le (by omega)]
theorem shD_at {l : List DipC} {i j : Nat} (hi : i ≤ j) (hj : j + 1 < l.length) : (shD l i j)[j + 1]'(by rw [shD_length (by omega) (by omega)]; exact hj) = l[j + 1] := by
  have := shD_get (l := l) (i := i) (j := j) (by omega) (by omega) (j + 1)
  rw [if_neg (by omega), List.getElem?_eq_getElem hj, List.getElem?_eq_getElem (by rw [shD_length (by omega) (by omega)]; exact hj)] at this
  exact Option.some.inj this

theorem wrap1 {i : Nat} (h : i ≤ 1000000000) : IntKind.i64.wrap ((i : Int) + 1) = ((i + 1 : Nat) : Int) := by rw [wrapI64 (by omega)]; omega
theorem putZ (x : DipC) : putCells [AV.bool false, AV.int IntKind.u8 0, AV.int IntKind.u8 0, AV.int IntKind.u8 0, AV.int IntKind.u8 0, AV.int IntKind.u8 0, AV.int IntKind.u8 0, AV.int IntKind.u8 0, AV.int IntKind.u8 0, AV.int IntKind.u8 0, AV.int IntKind.u8 0, AV.int IntKind.u8 0, AV.int IntKind.u8 0, AV.int IntKind.u8 0, AV.int IntKind.u8 0, AV.int IntKind.u8 0, AV.int IntKind.u8 0, AV.int IntKind.u16 0] 0 x.cells = x.cells := by
  rw [putCells_at _ _ _ (by rw [DipC.cells_length]; decide), List.take_zero, List.nil_append, DipC.cells_length]
  exact List.append_nil _
theorem take18 (x : DipC) : List.take 18 x.cells = x.cells := List.take_of_length_le (by simp)
theorem cells_isCell (x : DipC) : x.cells.all AV.isCell = true := by
  obtain ⟨v, b, q, hb⟩ := x
  obtain ⟨a0, a1, a2, a3, a4, a5, a6, a7, a8, a9, a10, a11, a12, a13, a14, a15, rfl⟩ := sixteen hb
  rfl
theorem rowDela {n r i j : Nat} {Cs : List AV} {x k : DipC} (hi : i < j) (hj : j < n) (hn : n ≤ 1000000) (hl : n * 18 ≤ Cs.length) (hx : List.take 18 (List.drop (j * 18) Cs) = x.cells) (hne : x ≠ k) :
    ∃ X, qround Try.prog [] 100 4 [(19, .bool true), (29, .bool true)] noT LDel mDel (vDel n r i j) (hDel Cs k.cells) = some (.norm, vDel n r ((i + 1 : Nat) : Int) ((j + 1 : Nat) : Int), hDel (putCells Cs (i * 18) x.cells) k.cells ++ X) := by
  have e6 : 0 + (j : Int).toNat * 18 = j * 18 := by omega
  have e7 : 0 + (i : Int).toNat * 18 = i * 18 := by omega
  refine ⟨[.cells x.cells 18 .own none, .cells x.cells 18 .own none], ?_⟩
  rw [nfDela]
  unfold hDela0
  simp only [e6, e7, hx, wrap1 (show i ≤ 1000000000 by omega), wrap1 (show j ≤ 1000000000 by omega), putZ, take18, DipC.cells_length]
  refine (if_pos (by simp; omega)).trans ?_
  refine (if_pos (by omega)).trans ?_
  refine (if_pos (by omega)).trans ?_
  refine (if_pos trivial).trans ?_
  refine (if_pos ⟨by omega, cells_isCell x⟩).trans ?_
  have hlen : i * 18 + 18 ≤ Cs.length := by omega
  have hcell := cells_isCell x
  have hi0 : 0 ≤ (i : Int) ∧ (i : Int) < (n : Int) := by omega
  generalize hpc : putCells Cs (i * 18) x.cells = PC
  obtain ⟨v, b, q, hb⟩ := x
  obtain ⟨v', b', q', hb'⟩ := k
  obtain ⟨a0, a1, a2, a3, a4, a5, a6, a7, a8, a9, a10, a11, a12, a13, a14, a15, rfl⟩ := sixteen hb
  obtain ⟨c0, c1, c2, c3, c4, c5, c6, c7, c8, c9, c10, c11, c12, c13, c14, c15, rfl⟩ := sixteen hb'
  iterate 43 (refine (if_pos (by first | exact True.intro | rfl | exact Nat.le_refl 17 | decide)).trans ?_)
  refine (if_pos ?_).trans ?_
  · rw [Bool.not_eq_true', Bool.eq_false_iff]
    intro hc
    refine hne ?_
    simp [DipC.cells, boolV, intV] at hc
    exact DipC.ext' hc.1.1 (by simp [hc]) (by simp [hc])
  iterate 3 (refine (if_pos (by first | exact True.intro | rfl | decide | exact hi0)).trans ?_)
  refine (if_pos ⟨hlen, hcell⟩).trans ?_
  rfl

theorem gcDel (l : List DipC) (z : Nat) (k : DipC) (n r : Nat) (i j : Int) (X : AHeap) : Gc 2 (vDel n r i j) (hDel (rowD l z) k.cells ++ X) (vDel n r i j) (hDel (rowD l z) k.cells) :=
  Gc.drop 2 rfl rfl (by
    intro b hb
    rcases List.mem_cons.1 hb with rfl | hb
    · exact okU_free (rowD_frees l z) (by simp)
    · rcases List.mem_cons.1 hb with rfl | hb
      · exact okU_free k.cells_frees (by simp)
      · simp at hb)
theorem loopDel {l : List DipC} {z i n : Nat} {k : DipC} (hi : i < l.length) (hn : l.length = n + 1) (hl : l.length ≤ 1000000) (hk : ∀ j (hj : j < l.length), i < j → l[j] ≠ k) :
    ∃ m, GReach (roundG Try.prog (deepT Try.prog [] 100 4) (lsT noT) LDel mDel) 2 m (vDel l.length z i ((i + 1 : Nat) : Int)) (hDel (rowD l z) k.cells) (.exit 0) (vDel l.length z n l.length) (hDel (rowD (shD l i n) z) k.cells) := by
  have := loop_T (P := Try.prog) (t := []) (F := 100) (n := 4) (LS := noT) (c := LDel) (m := mDel) (n0 := 2) (fun j => (vDel l.length z ((i + j : Nat) : Int) ((i + j + 1 : Nat) : Int), hDel (rowD (shD l i (i + j)) z) k.cells)) (N := n - i) (e := .exit 0) (vs := vDel l.length z n l.length) (h := hDel (rowD (shD l i n) z) k.cells) (by simp) (fun j hj => ?_) ?_
  · simp only [Nat.add_zero, shD_0 hi] at this
    exact this
  · have hlen := shD_length (l := l) (i := i) (j := i + j) hi (by omega)
    have h1 : i + j + 1 < (shD l i (i + j)).length := by rw [hlen]; omega
    obtain ⟨X, hX⟩ := rowDela (n := l.length) (r := z) (i := i + j) (j := i + j + 1) (Cs := rowD (shD l i (i + j)) z) (x := l[i + j + 1]) (k := k) (by omega) (by omega) hl (by rw [rowD_length, hlen]; omega)
      (by rw [rowD_at h1, shD_at (by omega) (by omega)]) (hk _ (by omega) (by omega))
    refine ⟨_, _, _, hX, ?_⟩
    rw [rowD_set (by omega), shD_step (by omega) (by omega)]
    exact gcDel _ _ _ _ _ _ _ _
  · refine ⟨[(19, .bool false)], _, _, (nfDels _ _ _ _ _ _).trans (if_pos ?_), ?_⟩
    · simp; omega
    · rw [show i + (n - i) = n by omega, show ((n + 1 : Nat) : Int) = l.length by omega]
      exact Gc.refl

theorem cells_inj {d e : DipC} (h : d.cells = e.cells) : d = e := by
  obtain ⟨v, b, q, hb⟩ := d
  obtain ⟨v', b', q', hb'⟩ := e
  obtain ⟨a0, a1, a2, a3, a4, a5, a6, a7, a8, a9, a10, a11, a12, a13, a14, a15, rfl⟩ := sixteen hb
  obtain ⟨c0, c1, c2, c3, c4, c5, c6, c7, c8, c9, c10, c11, c12, c13, c14, c15, rfl⟩ := sixteen hb'
  simp [DipC.cells] at h
  exact DipC.ext' h.1 (by simp [h]) (by simp [h])
theorem dipsC_inj : ∀ {l m : List DipC}, dipsC l = dipsC m → l = m
  | [], [], _ => rfl
  | [], d :: m, h => by have := congrArg List.length h; rw [dipsC_length, dipsC_length] at this; simp at this
  | d :: l, [], h => by have := congrArg List.length h; rw [dipsC_length, dipsC_length] at this; simp at this
  | d :: l, e :: m, h => by
    have h' : d.cells ++ dipsC l = e.cells ++ dipsC m := h
    obtain ⟨h1, h2⟩ := List.append_inj h' (by simp)
    rw [cells_inj h1, dipsC_inj h2]
noncomputable def delD (l : List DipC) (k : DipC) : List DipC := if atD l k < l.length then l.eraseIdx (atD l k) else l
noncomputable def delZ (l : List DipC) (k : DipC) (z : Nat) : Nat := if atD l k < l.length then z + 1 else z
theorem runDel {l : List DipC} {z : Nat} {k : DipC} (hl : l.length ≤ 1000000) (hd : l.Nodup) :
    Runs Try.prog 18 [.sl (some (0, 0)) l.length z false, fIxd] (hDel (rowD l z) k.cells) (.sl (some (0, 0)) (delD l k).length (delZ l k z) false) (hDel (rowD (delD l k) (delZ l k z)) k.cells) := by
  have hR : RIxd [AV.sl (some (0, 0)) l.length z false, fIxd] (hDel (rowD l z) k.cells) (.int .i64 (ixD l k)) [] := by
    refine RIxd.mk l k _ _ 1 18 .own none ?_ ?_ rfl rfl hl _ rfl
    · simp [rowOk, hDel, rowD_length]; omega
    · simp only [rowOf, hDel, List.getElem?_cons_zero, List.drop_zero]; exact rowD_take
  have hI : intC RIxd [AV.sl (some (0, 0)) l.length z false, fIxd] (hDel (rowD l z) k.cells) = ixD l k := intC_eq hR fun r' h => by
    cases h with
    | mk P' k' _ _ _ e md par ga gr gc he hl' _ hr =>
    have e1 : dipsC P' = dipsC l := by
      rw [← gr]; simp only [rowOf, hDel, List.getElem?_cons_zero, List.drop_zero]; exact rowD_take
    have e2 : k' = k := by
      simp only [hDel, List.getElem?_cons_succ, List.getElem?_cons_zero, Option.some.injEq, ABlk.cells.injEq] at gc
      exact (cells_inj gc.1).symm
    rw [← hr, dipsC_inj e1, e2]
  by_cases hj : atD l k < l.length
  · have hix : ixD l k = (atD l k : Int) := by unfold ixD; rw [if_pos hj]
    have hat : l[atD l k] = k := of_decide_eq_true (List.findIdx_getElem (p := fun p : DipC => decide (p = k)) (xs := l) (w := hj))
    obtain ⟨n, hn⟩ : ∃ n, l.length = n + 1 := ⟨l.length - 1, by omega⟩
    have hk : ∀ j (hj' : j < l.length), atD l k < j → l[j] ≠ k := fun j hj' hlt e => by
      have := (List.pairwise_iff_getElem.1 hd) _ _ hj hj' hlt
      exact this (hat.trans e.symm)
    have key : True → ∃ m, GReach (roundG Try.prog (deepT Try.prog [] 100 4) (lsT noT) LDel mDel) 2 m (vDel l.length z (atD l k) ((atD l k + 1 : Nat) : Int)) (hDel (rowD l z) k.cells) (.exit 0) (vDel l.length z n l.length) (hDel (rowD (shD l (atD l k) n) z) k.cells) := fun _ => loopDel hj hn hl hk
    have lp : loopsOf (bodyOf Try.prog 18) = [LDel] := by kernel_rfl
    obtain ⟨x, hx⟩ := shD_end hj hn
    have hle : (l.eraseIdx (atD l k)).length = n := by rw [List.length_eraseIdx, if_pos hj]; omega
    have ed : delD l k = l.eraseIdx (atD l k) := by unfold delD; rw [if_pos hj]
    have ez : delZ l k z = z + 1 := by unfold delZ; rw [if_pos hj]
    refine Runs.ofT tDelOk (F := 100) (n := 4) (pr := [(12, .bool false)]) (only (k := 5) lp (fixC_T (find_nil _) (F := 100) (n := 4) (LS := noT) (noLoops (by kernel_rfl)) key)) ?_
    rw [nfDelY]
    have hI2 : ∀ a b c C' q, intC RIxd [AV.sl (some (0, 0)) l.length z false, AV.fn (Fn.func 19) [AV.ptr (some (1, 0))]] (hDelY0 l.length z a b c (rowD l z) C' k.cells q) = (atD l k : Int) := fun _ _ _ _ _ => hI.trans hix
    rw [hI2, wrap1 (show atD l k ≤ 1000000000 by omega)]
    refine (if_pos (cdec_true.2 (by have := hR; rw [hix] at this; exact this))).trans ?_
    refine (if_pos (by simp)).trans ?_
    refine (if_pos (cdec_true.2 ⟨trivial, rfl, rfl⟩)).trans ?_
    refine (if_pos (by omega)).trans ?_
    refine (if_neg (by omega)).trans ?_
    have e0 : 0 + (n : Int).toNat * 18 = n * 18 := by omega
    have e1 : l.length - (n : Int).toNat = 1 := by omega
    refine (if_pos ⟨by rw [e0, e1, rowD_length, shD_length hj (by omega)]; simp [zrep]; omega, by rw [e1]; rfl⟩).trans ?_
    refine (if_pos (by simp [capOf]; omega)).trans ?_
    have eh : hDelY3 l.length z (atD l k : Int) ((atD l k + 1 : Nat) : Int) (n : Int) (rowD l z) (rowD (shD l (atD l k) n) z) k.cells True = hDel (rowD (delD l k) (delZ l k z)) k.cells := by
      unfold hDelY3 hDel
      rw [e0, e1, ed, ez, hx, ← hle]
      have := rowD_clear (l := l.eraseIdx (atD l k)) (x := x) (z := z)
      unfold dipZ at this
      rw [this]
    rw [eh, ed, ez, hle, show (n : Int).toNat - 0 = n by omega, show roomOf l.length z 0 (some (n : Int)).isNone (n : Int).toNat false = z + 1 by simp [roomOf]; omega]
  · have hix : ixD l k = -1 := by unfold ixD; rw [if_neg hj]
    have ed : delD l k = l := by unfold delD; rw [if_neg hj]
    have ez : delZ l k z = z := by unfold delZ; rw [if_neg hj]
    refine Runs.ofT0 tDelOk (F := 100) (n := 4) (pr := [(12, .bool true)]) ?_
    rw [nfDelN]
    have hI2 : intC RIxd [AV.sl (some (0, 0)) l.length z false, AV.fn (Fn.func 19) [AV.ptr (some (1, 0))]] (hDelN0 l.length z (rowD l z) k.cells) = -1 := hI.trans hix
    rw [hI2]
    refine (if_pos (cdec_true.2 (by have := hR; rw [hix] at this; exact this))).trans ?_
    refine (if_pos (by decide)).trans ?_
    rw [ed, ez]; rfl

structure DelOk (n z : Nat) (C D : List AV) (e : Nat) (l : List DipC) (k : DipC) : Prop where
  hC : C = rowD l z
  hD : D = k.cells
  hn : n = l.length
  hl : l.length ≤ 1000000
  nd : l.Nodup
  he : e = 18
theorem rowD_inj {l m : List DipC} {z : Nat} (h : rowD l z = rowD m z) : l = m := dipsC_inj (List.append_cancel_right h)
noncomputable def dipsOf (z : Nat) (C : List AV) : List DipC := @dite _ (∃ l, C = rowD l z) (Classical.propDecidable _) (fun h => Classical.choose h) fun _ => []
theorem dipsOf_eq (l : List DipC) (z : Nat) : dipsOf z (rowD l z) = l := by
  unfold dipsOf
  have h : ∃ m, rowD l z = rowD m z := ⟨l, rfl⟩
  rw [dif_pos h]
  exact (rowD_inj (Classical.choose_spec h)).symm
noncomputable def dipOf (D : List AV) : DipC := @dite _ (∃ k : DipC, D = k.cells) (Classical.propDecidable _) (fun h => Classical.choose h) fun _ => ⟨false, List.replicate 16 0, 0, by simp⟩
theorem dipOf_eq (k : DipC) : dipOf k.cells = k := by
  unfold dipOf
  have h : ∃ m : DipC, k.cells = m.cells := ⟨k, rfl⟩
  rw [dif_pos h]
  exact (cells_inj (Classical.choose_spec h)).symm
noncomputable def eDel : GEnt := fun args h => match args with
  | [.sl (some (o, 0)) n z false, .fn (.func f) [.ptr (some (c, 0))]] => match h[o]?, h[c]? with
    | some (.cells C e .own none), some (.cells D e' .own none) =>
      some (cdec (f = 19 ∧ o ≠ c ∧ e' = 18 ∧ DelOk n z C D e (dipsOf z C) (dipOf D)), .sl (some (o, 0)) (opq (delD (dipsOf z C) (dipOf D)).length) (opq (delZ (dipsOf z C) (dipOf D) z)) false,
        h.set o (.cells (opq (rowD (delD (dipsOf z C) (dipOf D)) (delZ (dipsOf z C) (dipOf D) z))) 18 .own none))
    | _, _ => none
  | _ => none
theorem sDel : SoundE Try.prog 18 (entF eDel) := frame_sound fun args h v h' hg => by
  unfold eDel at hg
  split at hg
  case h_2 => simp at hg
  rename_i o n z f c
  split at hg
  case h_2 => simp at hg
  rename_i C e D e' ho hc
  simp only [Option.some.injEq, Prod.mk.injEq] at hg
  obtain ⟨hg, rfl, rfl⟩ := hg
  rw [cdec_true] at hg
  obtain ⟨rfl, hoc, rfl, G⟩ := hg
  have eC := G.hC
  have eD := G.hD
  have en := G.hn
  obtain rfl := G.he
  generalize dipsOf z C = l at *
  generalize dipOf D = k at *
  subst eC eD en
  have e0 : h = killp h none := rfl
  have hlo := (List.getElem?_eq_some_iff.1 ho).1
  refine ⟨none, [o, c], [], [.sl (some (0, 0)) l.length z false, fIxd], hDel (rowD l z) k.cells, .sl (some (0, 0)) (delD l k).length (delZ l k z) false, hDel (rowD (delD l k) (delZ l k z)) k.cells, [.cells (rowD (delD l k) (delZ l k z)) 18 .own none, .cells k.cells 18 .own none], [], by simp [hoc], by simp, by simp, ?_, ?_, ?_, runDel G.hl G.nd, ?_, .nil, ?_, ?_⟩
  · exact .cons _ _ _ _ (.sl _ _ _ _ _ _ (by simp [posOf])) (.cons _ _ _ _ (.fn _ _ _ (.cons _ _ _ _ (.ptr _ _ _ (by simp [posOf, hoc])) .nil)) .nil)
  · exact .cons _ _ _ _ _ ho (.row (rowD_frees l z) (by simp)) (.cons _ _ _ _ _ hc (.row k.cells_frees (by simp)) .nil)
  · intro i hi b hb
    rw [← e0] at hb ⊢
    rcases List.mem_cons.1 hi with rfl | hi
    · rw [ho] at hb; cases hb; exact ⟨rfl, by simp [ABlk.par]⟩
    · simp at hi; subst hi; rw [hc] at hb; cases hb; exact ⟨rfl, by simp [ABlk.par]⟩
  · exact .cons _ _ _ _ _ rfl (.row (rowD_frees _ _) (by simp)) (.cons _ _ _ _ _ rfl (.row k.cells_frees (by simp)) .nil)
  · rw [opq_eq, opq_eq]; exact .sl _ _ _ _ _ _ rfl
  · rw [← e0, opq_eq]
    simp only [setAll, List.append_nil]
    have hc' : (h.set o (.cells (rowD (delD l k) (delZ l k z)) 18 .own none))[c]? = some (.cells k.cells 18 .own none) := (List.getElem?_set_ne hoc).trans hc
    obtain ⟨hlt, he⟩ := List.getElem?_eq_some_iff.1 hc'
    rw [← he, List.set_getElem_self]

end Go.Proofs.Ytpghomcohejejaa.L
