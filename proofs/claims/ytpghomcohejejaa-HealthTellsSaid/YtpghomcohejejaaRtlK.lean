/- The reference's Health: Tell, Count: contracts. -/
import Derived.Test.YtpghomcohejejaaRtlN
set_option autoImplicit false
set_option maxRecDepth 100000
set_option linter.unusedVariables false
set_option linter.unusedSimpArgs false
namespace Go.Proofs.Ytpghomcohejejaa.L
open Go Go.Abs

abbrev PL := List (DipC × Int)
def itP (P : PL) : List AV := P.flatMap fun p => illC p.1 p.2
@[simp] theorem itP_length : ∀ P : PL, (itP P).length = P.length * 19
  | [] => rfl
  | d :: P => by
    show (illC d.1 d.2 ++ itP P).length = _
    rw [List.length_append, illC_length, itP_length P, List.length_cons]; omega
theorem itP_frees : ∀ P : PL, AV.frees (itP P) = true
  | [] => rfl
  | d :: P => frees_append (illC_frees _ _) (itP_frees P)
theorem itP_cell : ∀ P : PL, (itP P).all AV.isCell = true
  | [] => rfl
  | d :: P => by
    show (illC d.1 d.2 ++ itP P).all AV.isCell = true
    rw [List.all_append, illC_cell, itP_cell P]; rfl
theorem itP_append (P Q : PL) : itP (P ++ Q) = itP P ++ itP Q := by simp [itP]
theorem itP_take : ∀ (P : PL) (i : Nat), (itP P).take (i * 19) = itP (P.take i)
  | [], i => by simp [itP]
  | d :: P, 0 => by simp [itP]
  | d :: P, i + 1 => by
    show List.take ((i + 1) * 19) (illC d.1 d.2 ++ itP P) = illC d.1 d.2 ++ itP (P.take i)
    rw [List.take_append, List.take_of_length_le (by rw [illC_length]; omega), illC_length, show (i + 1) * 19 - 19 = i * 19 by omega, itP_take P i]
theorem itP_drop : ∀ (P : PL) (i : Nat), (itP P).drop (i * 19) = itP (P.drop i)
  | [], i => by simp [itP]
  | d :: P, 0 => by simp
  | d :: P, i + 1 => by
    show List.drop ((i + 1) * 19) (illC d.1 d.2 ++ itP P) = itP (P.drop i)
    rw [List.drop_append, List.drop_of_length_le (by rw [illC_length]; omega), illC_length, show (i + 1) * 19 - 19 = i * 19 by omega, itP_drop P i]; rfl
theorem itP_19 {P : PL} {i : Nat} (h : i < P.length) : ((itP P).drop (i * 19)).take 19 = illC P[i].1 P[i].2 := by
  rw [itP_drop, List.drop_eq_getElem_cons h]
  show List.take 19 (illC P[i].1 P[i].2 ++ itP _) = _
  exact List.take_left' (by simp)
theorem itP_18 {P : PL} {i : Nat} (h : i < P.length) : ((itP P).drop (i * 19)).take 18 = P[i].1.cells := by
  have e : ((itP P).drop (i * 19)).take 18 = (((itP P).drop (i * 19)).take 19).take 18 := by rw [List.take_take]; rfl
  rw [e, itP_19 h]
  exact List.take_left' (by simp)
theorem itP_n {P : PL} {i : Nat} (h : i < P.length) : (itP P)[i * 19 + 18]? = some (.int .i64 P[i].2) := by
  have e : (itP P)[i * 19 + 18]? = (((itP P).drop (i * 19)).take 19)[18]? := by rw [List.getElem?_take, if_pos (by omega), List.getElem?_drop]
  rw [e, itP_19 h]
  unfold illC
  rw [List.getElem?_append_right (by simp)]
  simp
theorem itP_set {P : PL} {i : Nat} (h : i < P.length) (w : Int) : putCells (itP P) (i * 19 + 18) [.int .i64 w] = itP (P.set i (P[i].1, w)) := by
  have e : P.set i (P[i].1, w) = P.take i ++ (P[i].1, w) :: P.drop (i + 1) := by rw [List.set_eq_take_append_cons_drop, if_pos h]
  have e0 : P = P.take i ++ P[i] :: P.drop (i + 1) := by rw [← List.drop_eq_getElem_cons h, List.take_append_drop]
  have hl : (itP (P.take i)).length = i * 19 := by rw [itP_length, List.length_take]; congr 1; omega
  rw [e, itP_append]
  conv => lhs; rw [e0]
  rw [itP_append]
  show putCells (itP (P.take i) ++ (illC P[i].1 P[i].2 ++ itP (P.drop (i + 1)))) _ _ = itP (P.take i) ++ (illC P[i].1 w ++ itP (P.drop (i + 1)))
  rw [putCells_at _ _ _ (by simp [hl]; omega)]
  unfold illC
  have e1 : List.take (i * 19 + 18) (itP (P.take i) ++ (P[i].1.cells ++ [AV.int .i64 P[i].2] ++ itP (P.drop (i + 1)))) = itP (P.take i) ++ P[i].1.cells := by
    rw [show itP (P.take i) ++ (P[i].1.cells ++ [AV.int .i64 P[i].2] ++ itP (P.drop (i + 1))) = (itP (P.take i) ++ P[i].1.cells) ++ ([AV.int .i64 P[i].2] ++ itP (P.drop (i + 1))) by simp]
    exact List.take_left' (by simp [hl])
  have e2 : List.drop (i * 19 + 18 + [AV.int .i64 w].length) (itP (P.take i) ++ (P[i].1.cells ++ [AV.int .i64 P[i].2] ++ itP (P.drop (i + 1)))) = itP (P.drop (i + 1)) := by
    rw [show itP (P.take i) ++ (P[i].1.cells ++ [AV.int .i64 P[i].2] ++ itP (P.drop (i + 1))) = (itP (P.take i) ++ (P[i].1.cells ++ [AV.int .i64 P[i].2])) ++ itP (P.drop (i + 1)) by simp]
    exact List.drop_left' (by simp [hl])
  rw [e1, e2]; simp

theorem rowRta {f : Int} {P : PL} {i : Nat} {d : DipC} {w : Bool} (hi : i < P.length) (hl : P.length ≤ 100000) (hne : P[i].1 ≠ d) :
    qround Try.prog [] 100 4 [(19, .bool true), (31, .bool true)] noT RTL mRT (vRt w false 0 i) (hRt f P.length (itP P) d.cells) = some (.norm, vRt w false 0 ((i + 1 : Nat) : Int), hRt f P.length (itP P) d.cells) := by
  have e5 := wrap1 (i := i) (by omega)
  have e2 : 0 + (i : Int).toNat * 19 = i * 19 := by omega
  have x18 := itP_18 hi
  have t18 := take18 d
  refine (nfRta ..).trans ?_
  simp only [e2, Nat.add_zero, x18, t18, e5]
  generalize P[i].1 = x at *
  refine (if_pos (by simp; omega)).trans ?_
  refine (if_pos (by omega)).trans ?_
  refine (if_pos (by rw [itP_length]; omega)).trans ?_
  refine (if_pos (by simp)).trans ?_
  obtain ⟨v, b, q, hb⟩ := x
  obtain ⟨v', b', q', hb'⟩ := d
  obtain ⟨a0, a1, a2, a3, a4, a5, a6, a7, a8, a9, a10, a11, a12, a13, a14, a15, rfl⟩ := sixteen hb
  obtain ⟨c0, c1, c2, c3, c4, c5, c6, c7, c8, c9, c10, c11, c12, c13, c14, c15, rfl⟩ := sixteen hb'
  iterate 40 (refine (if_pos (by first | rfl | exact Nat.le_refl 17 | exact (by decide : 17 ≤ 18) | decide)).trans ?_)
  refine (if_pos ?_).trans rfl
  · rw [Bool.not_eq_true', Bool.eq_false_iff]
    intro hc
    refine hne ?_
    simp [DipC.cells, boolV, intV] at hc
    exact DipC.ext' hc.1.1 (by simp [hc]) (by simp [hc])
theorem rowRca {f : Int} {P : PL} {i : Nat} {d : DipC} (hi : i < P.length) (hl : P.length ≤ 100000) (hne : P[i].1 ≠ d) :
    qround Try.prog [] 100 4 [(12, .bool true), (24, .bool false)] noT RCL mRC (vRc 0 i) (hRt f P.length (itP P) d.cells) = some (.norm, vRc 0 ((i + 1 : Nat) : Int), hRt f P.length (itP P) d.cells) := by
  have e5 := wrap1 (i := i) (by omega)
  have e2 : 0 + (i : Int).toNat * 19 = i * 19 := by omega
  have x18 := itP_18 hi
  have t18 := take18 d
  refine (nfRca ..).trans ?_
  simp only [e2, Nat.add_zero, x18, t18, e5]
  generalize P[i].1 = x at *
  refine (if_pos (by simp; omega)).trans ?_
  refine (if_pos (by omega)).trans ?_
  refine (if_pos (by rw [itP_length]; omega)).trans ?_
  refine (if_pos (by simp)).trans ?_
  obtain ⟨v, b, q, hb⟩ := x
  obtain ⟨v', b', q', hb'⟩ := d
  obtain ⟨a0, a1, a2, a3, a4, a5, a6, a7, a8, a9, a10, a11, a12, a13, a14, a15, rfl⟩ := sixteen hb
  obtain ⟨c0, c1, c2, c3, c4, c5, c6, c7, c8, c9, c10, c11, c12, c13, c14, c15, rfl⟩ := sixteen hb'
  iterate 40 (refine (if_pos (by first | rfl | exact Nat.le_refl 17 | exact (by decide : 17 ≤ 18) | decide)).trans ?_)
  refine (if_pos ?_).trans rfl
  · rw [Bool.eq_false_iff]
    intro hc
    refine hne ?_
    simp [DipC.cells, boolV, intV] at hc
    exact DipC.ext' hc.1.1 (by simp [hc]) (by simp [hc])
theorem rowRcb {f : Int} {P : PL} {i : Nat} {d : DipC} (hi : i < P.length) (hl : P.length ≤ 100000) (he : P[i].1 = d) :
    qround Try.prog [] 100 4 [(12, .bool true), (24, .bool true)] noT RCL mRC (vRc 0 i) (hRt f P.length (itP P) d.cells) = some (.ret, vRc P[i].2 i, hRt f P.length (itP P) d.cells) := by
  have e2 : 0 + (i : Int).toNat * 19 = i * 19 := by omega
  have x18 := itP_18 hi
  have xn := itP_n hi
  have t18 := take18 d
  refine (nfRcb ..).trans ?_
  simp only [e2, Nat.add_zero, x18, t18, xn, show ∀ x, intV (some (AV.int IntKind.i64 x)) = x from fun _ => rfl]
  generalize P[i].2 = vv at *
  rw [he]
  refine (if_pos (by simp; omega)).trans ?_
  refine (if_pos (by omega)).trans ?_
  refine (if_pos (by rw [itP_length]; omega)).trans ?_
  refine (if_pos (by simp)).trans ?_
  obtain ⟨v', b', q', hb'⟩ := d
  obtain ⟨c0, c1, c2, c3, c4, c5, c6, c7, c8, c9, c10, c11, c12, c13, c14, c15, rfl⟩ := sixteen hb'
  iterate 40 (refine (if_pos (by first | rfl | exact Nat.le_refl 17 | exact (by decide : 17 ≤ 18) | decide)).trans ?_)
  refine (if_pos (by simp)).trans ?_
  refine (if_pos (by omega)).trans ?_
  exact if_pos rfl
theorem rowRtn {f : Int} {P : PL} {i : Nat} {d : DipC} (hi : i < P.length) (hl : P.length ≤ 100000) (he : P[i].1 = d) (hv : 0 ≤ P[i].2 ∧ P[i].2 ≤ 1000000) :
    qround Try.prog [] 100 4 [(19, .bool true), (31, .bool false)] noT RTL mRT (vRt false false 0 i) (hRt f P.length (itP P) d.cells) = some (.ret, vRt false (P[i].2 + 1 == f) 0 i, hRt f P.length (itP (P.set i (d, P[i].2 + 1))) d.cells) := by
  have e2 : 0 + (i : Int).toNat * 19 = i * 19 := by omega
  have x18 := itP_18 hi
  have xn := itP_n hi
  have t18 := take18 d
  have hw : IntKind.i64.wrap (P[i].2 + 1) = P[i].2 + 1 := wrapI64 (by omega)
  have es := itP_set hi (P[i].2 + 1)
  rw [he] at es
  have xm : (itP (P.set i (d, P[i].2 + 1)))[i * 19 + 18]? = some (.int .i64 (P[i].2 + 1)) := by
    rw [itP_n (by simpa using hi)]; simp
  have eh : hRtn0 f P.length (itP P) d.cells i = hRt f P.length (itP (P.set i (d, P[i].2 + 1))) d.cells := by
    unfold hRtn0
    simp only [e2, xn, show ∀ x, intV (some (AV.int IntKind.i64 x)) = x from fun _ => rfl, hw, es]
    rfl
  refine (nfRtn ..).trans ?_
  simp only [e2, Nat.add_zero, x18, t18, xn, show ∀ x, intV (some (AV.int IntKind.i64 x)) = x from fun _ => rfl, hw, es, xm]
  rw [eh]
  have hlen : i * 19 + 18 + [AV.int IntKind.i64 (P[i].2 + 1)].length ≤ (itP P).length := by rw [itP_length]; simp; omega
  generalize P[i].2 = vv at *
  generalize itP (P.set i (d, vv + 1)) = Q at *
  rw [he]
  refine (if_pos (by simp; omega)).trans ?_
  refine (if_pos (by omega)).trans ?_
  refine (if_pos (by rw [itP_length]; omega)).trans ?_
  refine (if_pos (by simp)).trans ?_
  obtain ⟨v', b', q', hb'⟩ := d
  obtain ⟨c0, c1, c2, c3, c4, c5, c6, c7, c8, c9, c10, c11, c12, c13, c14, c15, rfl⟩ := sixteen hb'
  iterate 40 (refine (if_pos (by first | rfl | exact Nat.le_refl 17 | exact (by decide : 17 ≤ 18) | decide)).trans ?_)
  refine (if_pos (by simp)).trans ?_
  refine (if_pos (by omega)).trans ?_
  refine (if_pos rfl).trans ?_
  refine (if_pos (by omega)).trans ?_
  refine (if_pos ⟨hlen, rfl⟩).trans ?_
  refine (if_pos (by omega)).trans ?_
  exact if_pos rfl
def hRw (f : Int) (P : PL) (i : Nat) (d : DipC) : AHeap := [.cells [.int .i64 f, .sl (some (5, 0)) (P.length - 1) 0 false] 2 .own none, .cells (itP P) 19 .own none, .cells d.cells 18 .own none, .dead, .cells (itP (P.take i)) 19 .ro none, .cells (itP (P.eraseIdx i)) 19 .own (some 4)]
theorem rowRtw {f : Int} {P : PL} {i : Nat} {d : DipC} (hi : i < P.length) (hl : P.length ≤ 100000) (he : P[i].1 = d) :
    qround Try.prog [] 100 4 [(19, .bool true), (31, .bool false)] noT RTL mRT (vRt true false 0 i) (hRt f P.length (itP P) d.cells) = some (.ret, vRt true false 0 i, hRw f P i d) := by
  have e2 : 0 + (i : Int).toNat * 19 = i * 19 := by omega
  have e5 := wrap1 (i := i) (by omega)
  have e6 : (i : Int).toNat - 0 = i := by omega
  have e7 : (((i + 1 : Nat) : Int)).toNat = i + 1 := by omega
  have x18 := itP_18 hi
  have t18 := take18 d
  have d1 : (P.length - (i + 1)) * 19 = (P.drop (i + 1)).length * 19 := by rw [List.length_drop]
  have d2 : List.take ((P.length - (i + 1)) * 19) (itP (P.drop (i + 1))) = itP (P.drop (i + 1)) := List.take_of_length_le (by rw [itP_length]; omega)
  have d3 : List.take (i * 19) (itP (P.take i)) = itP (P.take i) := List.take_of_length_le (by rw [itP_length, List.length_take]; omega)
  have eE : itP (P.take i) ++ itP (P.drop (i + 1)) = itP (P.eraseIdx i) := by rw [List.eraseIdx_eq_take_drop_succ, itP_append]
  have hT : (itP (P.take i)).length = i * 19 := by rw [itP_length, List.length_take]; congr 1; omega
  have hD : (itP (P.drop (i + 1))).length = (P.length - (i + 1)) * 19 := by rw [itP_length, List.length_drop]
  have eh : hRtw0 f P.length (itP P) d.cells i = hRw f P i d := by
    unfold hRtw0 hRw
    simp only [e5, e6, e7, Nat.zero_add, itP_take, itP_drop, d2, d3, eE, List.take_take, Nat.min_self]
    rw [show i + (P.length - (i + 1)) = P.length - 1 by omega]
  refine (nfRtw ..).trans ?_
  rw [eh]
  simp only [e2, Nat.add_zero, x18, t18]
  simp only [e5, e6, e7, Nat.zero_add, itP_take, itP_drop, d2, d3]
  generalize hRw f P i d = HH at *
  have k1 := itP_cell (P.take i)
  have k2 := itP_cell (P.drop (i + 1))
  have k3 : i * 19 ≤ (itP P).length := by rw [itP_length]; omega
  have k4 : (i + 1) * 19 + (P.length - (i + 1)) * 19 ≤ (itP P).length := by rw [itP_length]; omega
  rw [he]
  refine (if_pos (by simp; omega)).trans ?_
  refine (if_pos (by omega)).trans ?_
  refine (if_pos (by rw [itP_length]; omega)).trans ?_
  refine (if_pos (by simp)).trans ?_
  obtain ⟨v', b', q', hb'⟩ := d
  obtain ⟨c0, c1, c2, c3, c4, c5, c6, c7, c8, c9, c10, c11, c12, c13, c14, c15, rfl⟩ := sixteen hb'
  iterate 40 (refine (if_pos (by first | rfl | exact Nat.le_refl 17 | exact (by decide : 17 ≤ 18) | decide)).trans ?_)
  refine (if_pos (by simp)).trans ?_
  refine (if_pos (by simp [capOf]; omega)).trans ?_
  refine (if_pos k3).trans ?_
  refine (if_pos ⟨by omega, by trivial, by omega⟩).trans ?_
  refine (if_pos ⟨by trivial, by trivial, .inr (by trivial), by trivial, k1⟩).trans ?_
  refine (if_pos (by omega)).trans ?_
  refine (if_pos k4).trans ?_
  refine (if_pos ⟨by omega, by trivial, by omega⟩).trans ?_
  refine (if_pos (by omega)).trans ?_
  refine (if_pos ⟨by trivial, by omega, .inr (by trivial), by trivial, k2⟩).trans ?_
  iterate 3 (refine (if_pos (AV.beq_self _)).trans ?_)
  rfl



noncomputable def atP (P : PL) (d : DipC) : Nat := P.findIdx fun p => decide (p.1 = d)
theorem atP_eq {P : PL} {d : DipC} (h : atP P d < P.length) : P[atP P d].1 = d := of_decide_eq_true (List.findIdx_getElem (p := fun p : DipC × Int => decide (p.1 = d)) (xs := P) (w := h))
theorem atP_ne {P : PL} {d : DipC} {i : Nat} (hi : i < P.length) (h : i < atP P d) : P[i].1 ≠ d := by
  have := List.not_of_lt_findIdx (p := fun p : DipC × Int => decide (p.1 = d)) (xs := P) h; simpa using this
noncomputable def cntP (P : PL) (d : DipC) : Int := if h : atP P d < P.length then P[atP P d].2 else 0
noncomputable def telP (P : PL) (d : DipC) (w : Bool) : PL :=
  if d.ok = false then P else
  if h : atP P d < P.length then (if w = true then P.eraseIdx (atP P d) else P.set (atP P d) (d, P[atP P d].2 + 1)) else
  if w = true then P else P ++ [(d, 1)]
noncomputable def telPD (f : Int) (P : PL) (d : DipC) (w : Bool) : Bool := d.ok && !w && (cntP P d + 1 == f)
structure POk (P : PL) : Prop where
  len : P.length ≤ 99999
  cnt : ∀ p ∈ P, 0 ≤ p.2 ∧ p.2 ≤ 99999
noncomputable def hP (f : Int) (P : PL) : AHeap := hRt0 f P.length (itP P)
def hPT (f : Int) (P : PL) : AHeap := [.cells [.int .i64 f, .sl (some (2, 0)) P.length 0 false] 2 .own none, .dead, .cells (itP P) 19 .own none]
theorem reP {f : Int} {P : PL} {v : AV} {h : AHeap} {k : Nat} {b1 : ABlk} {par : Option Nat} (hk : 1 ≤ k) (hf : v.free = true) (h0 : h[0]? = some (.cells [.int .i64 f, .sl (some (k, 0)) P.length 0 false] 2 .own none))
    (h1 : h[1]? = some b1) (h3 : h[k]? = some (.cells (itP P) 19 .own par)) (hp : ∀ p, par = some p → p ≠ 0 ∧ p ≠ k) : Re 2 v h v (hPT f P) := by
  refine .gc [0, 1, k] (fun i => if i = 0 then some 0 else if i = k then some 2 else none) _ _ _ _ _ _ ?_ ?_ ?_ (.free _ hf) (.done _ _)
  · intro j hj
    match j, hj with
    | 0, _ => rfl
    | 1, _ => rfl
  · refine .cons _ _ _ _ _ h0 (.cells _ _ _ _ _ _ (.cons _ _ _ _ (.free _ rfl) (.cons _ _ _ _ (.sl _ _ _ _ _ _ ?_) .nil)) (by simp)) (.cons _ _ _ _ _ h1 (.dead _) (.cons _ _ _ _ _ h3 (.row (itP_frees _) ?_) .nil))
    · rw [if_neg (by omega), if_pos rfl]
    · intro p j hpar
      obtain ⟨q1, q2⟩ := hp p hpar
      rw [if_neg q1, if_neg q2]
      simp
  · constructor
    · intro i j
      show (if i = 0 then some 0 else if i = k then some 2 else none) = some j → _
      split
      · rename_i e; subst e; intro h; cases h; rfl
      · split
        · rename_i e; subst e; intro h; cases h; rfl
        · intro h; cases h
    · intro j i b hj hb
      match j, hj with
      | 0, hj => right; cases hj; rfl
      | 1, _ => left; cases hb; rfl
      | 2, hj => right; cases hj; rw [if_neg (by omega), if_pos rfl]
theorem lpRT : loopsOf (bodyOf Try.prog 12) = [RTL] := by kernel_rfl
theorem lpRC : loopsOf (bodyOf Try.prog 14) = [RCL] := by kernel_rfl
theorem sRVald : SoundE Try.prog 20 (entF eValR) := by
  refine canonV_sound fun args h v h' hg => ?_
  unfold eValR at hg
  split at hg
  · rename_i cs
    simp only [Option.some.injEq, Prod.mk.injEq] at hg
    obtain ⟨hw, rfl, rfl⟩ := hg
    rw [cdec_true] at hw
    cases hw with
    | mk d _ hd =>
    obtain ⟨v, b, pp, hb⟩ := d
    subst hd
    obtain ⟨x0, x1, x2, x3, x4, x5, x6, x7, x8, x9, x10, x11, x12, x13, x14, x15, rfl⟩ := sixteen hb
    rw [opq_eq]
    show _ ∧ _ ∧ _
    refine ⟨rfl, rfl, [.agg (adrV v x0 x1 x2 x3 x4 x5 x6 x7 x8 x9 x10 x11 x12 x13 x14 x15)], [], .cons _ _ _ _ _ _ _ (.flat _ _ rfl) (.nil _), ?_⟩
    show ∃ h', Runs Try.prog 20 _ _ (.bool (adrValid (adrV v x0 x1 x2 x3 x4 x5 x6 x7 x8 x9 x10 x11 x12 x13 x14 x15))) h'
    clear hb
    cases v
    · refine Runs.valT0 (find_nil _) (F := 100) (n := 6) (pr := []) ?_
      rw [nfRValidF]
      have e : adrValid (adrV false x0 x1 x2 x3 x4 x5 x6 x7 x8 x9 x10 x11 x12 x13 x14 x15) = [AV.int .u8 x4, AV.int .u8 x5, AV.int .u8 x6, AV.int .u8 x7, AV.int .u8 x8, AV.int .u8 x9, AV.int .u8 x10, AV.int .u8 x11, AV.int .u8 x12, AV.int .u8 x13, AV.int .u8 x14, AV.int .u8 x15].all isZeroV := rfl
      rw [e]
      by_cases h4 : x4 = 0
      case neg => exact (if_pos (by simpa using h4)).trans (by simp [h4])
      refine (if_neg (by simpa using h4)).trans ?_
      by_cases h5 : x5 = 0
      case neg => exact (if_pos (by simpa using h5)).trans (by simp [h5])
      refine (if_neg (by simpa using h5)).trans ?_
      by_cases h6 : x6 = 0
      case neg => exact (if_pos (by simpa using h6)).trans (by simp [h6])
      refine (if_neg (by simpa using h6)).trans ?_
      by_cases h7 : x7 = 0
      case neg => exact (if_pos (by simpa using h7)).trans (by simp [h7])
      refine (if_neg (by simpa using h7)).trans ?_
      by_cases h8 : x8 = 0
      case neg => exact (if_pos (by simpa using h8)).trans (by simp [h8])
      refine (if_neg (by simpa using h8)).trans ?_
      by_cases h9 : x9 = 0
      case neg => exact (if_pos (by simpa using h9)).trans (by simp [h9])
      refine (if_neg (by simpa using h9)).trans ?_
      by_cases h10 : x10 = 0
      case neg => exact (if_pos (by simpa using h10)).trans (by simp [h10])
      refine (if_neg (by simpa using h10)).trans ?_
      by_cases h11 : x11 = 0
      case neg => exact (if_pos (by simpa using h11)).trans (by simp [h11])
      refine (if_neg (by simpa using h11)).trans ?_
      by_cases h12 : x12 = 0
      case neg => exact (if_pos (by simpa using h12)).trans (by simp [h12])
      refine (if_neg (by simpa using h12)).trans ?_
      by_cases h13 : x13 = 0
      case neg => exact (if_pos (by simpa using h13)).trans (by simp [h13])
      refine (if_neg (by simpa using h13)).trans ?_
      by_cases h14 : x14 = 0
      case neg => exact (if_pos (by simpa using h14)).trans (by simp [h14])
      refine (if_neg (by simpa using h14)).trans ?_
      by_cases h15 : x15 = 0
      case neg => exact (if_pos (by simpa using h15)).trans (by simp [h15])
      refine (if_neg (by simpa using h15)).trans ?_
      simp [h4, h5, h6, h7, h8, h9, h10, h11, h12, h13, h14, h15]
    · refine Runs.valT0 (find_nil _) (F := 100) (n := 6) (pr := []) ?_
      rw [nfRValidT]
      rfl
  · simp at hg
theorem tRtOk : ∀ f E, tRt.find f = some E → SoundE Try.prog f E := find_cons sRVald (find_nil _)
theorem walkRt {f : Int} {P : PL} {d : DipC} {w : Bool} {e : AEx} {vs : List AV} {h : AHeap} (H : POk P) (n : Nat) (hn : n ≤ P.length) (hat : n ≤ atP P d) (he : e ≠ .norm)
    (stop : ∃ pr, qround Try.prog [] 100 4 pr noT RTL mRT (vRt w false 0 n) (hRt f P.length (itP P) d.cells) = some (e, vs, h)) :
    ∃ k, GReach (roundG Try.prog (deepT Try.prog [] 100 4) (lsT noT) RTL mRT) 3 k (vRt w false 0 0) (hRt f P.length (itP P) d.cells) e vs h := by
  have := H.len
  refine loop_T (fun i => (vRt w false 0 i, hRt f P.length (itP P) d.cells)) (N := n) he (fun i hi => ⟨_, _, _, rowRta (by omega) (by omega) (atP_ne (by omega) (by omega)), Gc.refl⟩) ?_
  obtain ⟨pr, h⟩ := stop
  exact ⟨pr, _, _, h, Gc.refl⟩
theorem walkRc {f : Int} {P : PL} {d : DipC} {e : AEx} {vs : List AV} {h : AHeap} (H : POk P) (n : Nat) (hn : n ≤ P.length) (hat : n ≤ atP P d) (he : e ≠ .norm)
    (stop : ∃ pr, qround Try.prog [] 100 4 pr noT RCL mRC (vRc 0 n) (hRt f P.length (itP P) d.cells) = some (e, vs, h)) :
    ∃ k, GReach (roundG Try.prog (deepT Try.prog [] 100 4) (lsT noT) RCL mRC) 3 k (vRc 0 0) (hRt f P.length (itP P) d.cells) e vs h := by
  have := H.len
  refine loop_T (fun i => (vRc 0 i, hRt f P.length (itP P) d.cells)) (N := n) he (fun i hi => ⟨_, _, _, rowRca (by omega) (by omega) (atP_ne (by omega) (by omega)), Gc.refl⟩) ?_
  obtain ⟨pr, h⟩ := stop
  exact ⟨pr, _, _, h, Gc.refl⟩
theorem runRc {f : Int} {P : PL} (H : POk P) (d : DipC) : ∃ X, Runs Try.prog 14 [.ptr (some (0, 0)), .agg d.cells] (hP f P) (.int .i64 (cntP P d)) (hP f P ++ X) := by
  have hl := H.len
  refine ⟨[.cells d.cells 18 .own none], ?_⟩
  by_cases hj : atP P d < P.length
  · have ec : cntP P d = P[atP P d].2 := by unfold cntP; rw [dif_pos hj]
    have key : True → ∃ k, GReach (roundG Try.prog (deepT Try.prog [] 100 4) (lsT noT) RCL mRC) 3 k (vRc 0 0) (hRt f P.length (itP P) d.cells) .ret (vRc P[atP P d].2 (atP P d)) (hRt f P.length (itP P) d.cells) :=
      fun _ => walkRc H (atP P d) (by omega) (Nat.le_refl _) (by simp) ⟨_, rowRcb hj (by omega) (atP_eq hj)⟩
    rw [ec]
    exact Runs.ofT (find_nil _) (F := 100) (n := 4) (pr := []) (only (k := 2) lpRC (fixC_T (find_nil _) (F := 100) (n := 4) (LS := noT) (noLoops (by kernel_rfl)) key)) ((nfRcY f P.length _ d.cells True _ _ _).trans (if_pos (cdec_true.2 ⟨trivial, rfl, rfl⟩)))
  · have ec : cntP P d = 0 := by unfold cntP; rw [dif_neg hj]
    have key : True → ∃ k, GReach (roundG Try.prog (deepT Try.prog [] 100 4) (lsT noT) RCL mRC) 3 k (vRc 0 0) (hRt f P.length (itP P) d.cells) (.exit 0) (vRc 0 P.length) (hRt f P.length (itP P) d.cells) :=
      fun _ => walkRc H P.length (Nat.le_refl _) (by omega) (by simp) ⟨[(12, .bool false)], (nfRcs ..).trans (if_pos (by simp))⟩
    rw [ec]
    exact Runs.ofT (find_nil _) (F := 100) (n := 4) (pr := []) (only (k := 2) lpRC (fixC_T (find_nil _) (F := 100) (n := 4) (LS := noT) (noLoops (by kernel_rfl)) key)) ((nfRcX f P.length _ d.cells True _ _).trans (if_pos (cdec_true.2 ⟨trivial, rfl, rfl⟩)))
theorem runRt {f : Int} {P : PL} (H : POk P) (d : DipC) (w : Bool) : Runs Try.prog 12 [.ptr (some (0, 0)), .agg d.cells, .bool w] (hP f P) (.tup [.bool (telPD f P d w), .int .i64 (telE d)]) (hPT f (telP P d w)) := by
  have hl := H.len
  have ia : IsAdr (List.take 17 d.cells) := .mk d _ rfl
  have h17 : 17 ≤ d.cells.length := by simp
  cases hd : d.ok
  · have e1 : telP P d w = P := by unfold telP; rw [if_pos hd]
    have e2 : telPD f P d w = false := by unfold telPD; rw [hd]; rfl
    have e3 : telE d = 1 := by unfold telE; rw [hd]; rfl
    rw [e1, e2, e3]
    refine Runs.re (v := .tup [.bool false, .int .i64 1]) (h' := hRtI0 f P.length (itP P) d.cells w) (Runs.ofT0 tRtOk (F := 100) (n := 4) (pr := [(12, .bool true)]) ?_) (reP (k := 1) (par := none) (by omega) rfl rfl rfl rfl (by simp))
    refine (nfRtI ..).trans ?_
    refine (if_pos h17).trans ?_
    refine (if_pos (cdec_true.2 ia)).trans ?_
    exact if_pos (by rw [opq_eq]; show (!d.ok) = true; rw [hd]; rfl)
  have e3 : telE d = 0 := by unfold telE; rw [hd]; rfl
  have hv : (!opq (adrValid (List.take 17 d.cells))) = false := by rw [opq_eq]; show (!d.ok) = false; rw [hd]; rfl
  rw [e3]
  by_cases hj : atP P d < P.length
  · have ec : cntP P d = P[atP P d].2 := by unfold cntP; rw [dif_pos hj]
    have hc := H.cnt P[atP P d] (List.getElem_mem hj)
    cases w
    · have e1 : telP P d false = P.set (atP P d) (d, P[atP P d].2 + 1) := by unfold telP; rw [if_neg (by rw [hd]; simp), dif_pos hj, if_neg (by simp)]
      have e2 : telPD f P d false = (P[atP P d].2 + 1 == f) := by unfold telPD; rw [hd, ec]; rfl
      rw [e1, e2]
      have key : True → ∃ k, GReach (roundG Try.prog (deepT Try.prog [] 100 4) (lsT noT) RTL mRT) 3 k (vRt false false 0 0) (hRt f P.length (itP P) d.cells) .ret (vRt false (P[atP P d].2 + 1 == f) 0 (atP P d)) (hRt f P.length (itP (P.set (atP P d) (d, P[atP P d].2 + 1))) d.cells) :=
        fun _ => walkRt H (atP P d) (by omega) (Nat.le_refl _) (by simp) ⟨_, rowRtn hj (by omega) (atP_eq hj) (by omega)⟩
      refine Runs.re (v := .tup [.bool (P[atP P d].2 + 1 == f), .int .i64 0]) (h' := hRt f P.length (itP (P.set (atP P d) (d, P[atP P d].2 + 1))) d.cells) (Runs.ofT tRtOk (F := 100) (n := 4) (pr := [(12, .bool false)]) (only (k := 4) lpRT (fixC_T (find_nil _) (F := 100) (n := 4) (LS := noT) (noLoops (by kernel_rfl)) key)) ?_) (reP (k := 1) (par := none) (by omega) rfl (by simp [hRt]) rfl rfl (by simp))
      refine (nfRtY f P.length _ d.cells True ..).trans ?_
      refine (if_pos h17).trans ?_
      refine (if_pos (cdec_true.2 ia)).trans ?_
      refine (if_pos hv).trans ?_
      exact if_pos (cdec_true.2 ⟨trivial, rfl, rfl⟩)
    · have e1 : telP P d true = P.eraseIdx (atP P d) := by unfold telP; rw [if_neg (by rw [hd]; simp), dif_pos hj, if_pos rfl]
      have e2 : telPD f P d true = false := by unfold telPD; simp
      rw [e1, e2]
      have key : True → ∃ k, GReach (roundG Try.prog (deepT Try.prog [] 100 4) (lsT noT) RTL mRT) 3 k (vRt true false 0 0) (hRt f P.length (itP P) d.cells) .ret (vRt true false 0 (atP P d)) (hRw f P (atP P d) d) :=
        fun _ => walkRt H (atP P d) (by omega) (Nat.le_refl _) (by simp) ⟨_, rowRtw hj (by omega) (atP_eq hj)⟩
      refine Runs.re (v := .tup [.bool false, .int .i64 0]) (h' := hRw f P (atP P d) d) (Runs.ofT tRtOk (F := 100) (n := 4) (pr := [(12, .bool false)]) (only (k := 4) lpRT (fixC_T (find_nil _) (F := 100) (n := 4) (LS := noT) (noLoops (by kernel_rfl)) key)) ?_) (reP (k := 5) (par := some 4) (by omega) rfl (by simp [hRw, List.length_eraseIdx, hj]) rfl rfl (by simp))
      refine (nfRtY f P.length _ d.cells True ..).trans ?_
      refine (if_pos h17).trans ?_
      refine (if_pos (cdec_true.2 ia)).trans ?_
      refine (if_pos hv).trans ?_
      exact if_pos (cdec_true.2 ⟨trivial, rfl, rfl⟩)
  · have ec : cntP P d = 0 := by unfold cntP; rw [dif_neg hj]
    have key : ∀ w, True → ∃ k, GReach (roundG Try.prog (deepT Try.prog [] 100 4) (lsT noT) RTL mRT) 3 k (vRt w false 0 0) (hRt f P.length (itP P) d.cells) (.exit 0) (vRt w false 0 P.length) (hRt f P.length (itP P) d.cells) :=
      fun w _ => walkRt H P.length (Nat.le_refl _) (by omega) (by simp) ⟨[(19, .bool false)], (nfRts ..).trans (if_pos (by simp))⟩
    cases w
    · have e1 : telP P d false = P ++ [(d, 1)] := by unfold telP; rw [if_neg (by rw [hd]; simp), dif_neg hj, if_neg (by simp)]
      have e2 : telPD f P d false = (f == 1) := by unfold telPD; rw [hd, ec]; show ((0 : Int) + 1 == f) = _; exact BEq.comm
      rw [e1, e2]
      have eh : ∀ q i, hRtZ1 f P.length (itP P) d.cells q i = [.cells [.int .i64 f, .sl (some (4, 0)) (P.length + 1) 0 false] 2 .own none, .cells (itP P) 19 .ro none, .cells d.cells 18 .own none, .cells (illC d 1) 19 .own none, .cells (itP (P ++ [(d, 1)])) 19 .own (some 1)] := by
        intro q i
        unfold hRtZ1
        rw [take18, putA, putB, putC, takeC, List.take_of_length_le (show (itP P).length ≤ P.length * 19 by simp), itP_append]
        simp [itP]
      refine Runs.re (v := .tup [.bool (f == 1), .int .i64 0]) (h' := hRtZ1 f P.length (itP P) d.cells True P.length) (Runs.ofT tRtOk (F := 100) (n := 4) (pr := [(12, .bool false)]) (only (k := 4) lpRT (fixC_T (find_nil _) (F := 100) (n := 4) (LS := noT) (noLoops (by kernel_rfl)) (key false))) ?_) ?_
      · refine (nfRtZ f P.length _ d.cells True ..).trans ?_
        rw [take18, putA, putB, putC, takeC]
        refine (if_pos h17).trans ?_
        refine (if_pos (cdec_true.2 ia)).trans ?_
        refine (if_pos hv).trans ?_
        refine (if_pos (cdec_true.2 ⟨trivial, rfl, rfl⟩)).trans ?_
        refine (if_pos (by simp)).trans ?_
        refine (if_pos ⟨by simp, by decide⟩).trans ?_
        refine (if_pos ⟨rfl, by simp⟩).trans ?_
        refine (if_pos ⟨by simp, by decide⟩).trans ?_
        refine (if_pos (by simp)).trans ?_
        refine (if_pos ⟨by omega, rfl, by omega⟩).trans ?_
        refine (if_pos (by simp)).trans ?_
        refine (if_pos ⟨rfl, by simp, .inl (by decide), rfl, illC_cell _ _⟩).trans ?_
        rfl
      · rw [eh]
        exact reP (k := 4) (par := some 1) (by omega) rfl (by simp) rfl rfl (by simp)
    · have e1 : telP P d true = P := by unfold telP; rw [if_neg (by rw [hd]; simp), dif_neg hj, if_pos rfl]
      have e2 : telPD f P d true = false := by unfold telPD; simp
      rw [e1, e2]
      refine Runs.re (v := .tup [.bool false, .int .i64 0]) (h' := hRt f P.length (itP P) d.cells) (Runs.ofT tRtOk (F := 100) (n := 4) (pr := [(12, .bool false)]) (only (k := 4) lpRT (fixC_T (find_nil _) (F := 100) (n := 4) (LS := noT) (noLoops (by kernel_rfl)) (key true))) ?_) (reP (k := 1) (par := none) (by omega) rfl rfl rfl rfl (by simp))
      refine (nfRtX f P.length _ d.cells True ..).trans ?_
      refine (if_pos h17).trans ?_
      refine (if_pos (cdec_true.2 ia)).trans ?_
      refine (if_pos hv).trans ?_
      exact (if_pos (cdec_true.2 ⟨trivial, rfl, rfl⟩)).trans rfl

end Go.Proofs.Ytpghomcohejejaa.L
