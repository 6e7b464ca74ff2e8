/- DIPs, and DIPs with a number each, as rows. -/
import Derived.Test.YtlppbeoiphglcaaGcKit
import Derived.Test.YtlppbeoiphglcaaAddrB
import Derived.Test.YtlppbeoiphglcaaDipKit
import Derived.Test.YtlppbeoiphglcaaOctB
import Derived.Test.YtlppbeoiphglcaaBase
set_option autoImplicit false
set_option maxRecDepth 100000
set_option linter.unusedVariables false
set_option linter.unusedSimpArgs false
namespace Go.Proofs.Ytlppbeoiphglcaa.L
open Go Go.Abs

def dipZ : List AV := [.bool false, .int .u8 0, .int .u8 0, .int .u8 0, .int .u8 0, .int .u8 0, .int .u8 0, .int .u8 0, .int .u8 0, .int .u8 0, .int .u8 0, .int .u8 0, .int .u8 0, .int .u8 0, .int .u8 0, .int .u8 0, .int .u8 0, .int .u16 0]
theorem zrep_succ (zc : List AV) (n : Nat) : zrep (n + 1) zc = zc ++ zrep n zc := by simp [zrep, List.replicate_succ]
theorem wrap1 {i : Nat} (h : i ≤ 1000000000) : IntKind.i64.wrap ((i : Int) + 1) = ((i + 1 : Nat) : Int) := by rw [wrapI64 (by omega)]; omega
theorem cells_isCell (x : DipC) : x.cells.all AV.isCell = true := by
  obtain ⟨v, b, q, hb⟩ := x
  obtain ⟨a0, a1, a2, a3, a4, a5, a6, a7, a8, a9, a10, a11, a12, a13, a14, a15, rfl⟩ := sixteen hb
  rfl
theorem cells_inj {d e : DipC} (h : d.cells = e.cells) : d = e := by
  obtain ⟨v, b, q, hb⟩ := d
  obtain ⟨v', b', q', hb'⟩ := e
  obtain ⟨a0, a1, a2, a3, a4, a5, a6, a7, a8, a9, a10, a11, a12, a13, a14, a15, rfl⟩ := sixteen hb
  obtain ⟨c0, c1, c2, c3, c4, c5, c6, c7, c8, c9, c10, c11, c12, c13, c14, c15, rfl⟩ := sixteen hb'
  simp [DipC.cells] at h
  exact DipC.ext' h.1 (by simp [h]) (by simp [h])
theorem dipsC_inj : ∀ {l m : List DipC}, dipsC l = dipsC m → l = m
  | [], [], _ => rfl
  | [], d :: m, h => by have := congrArg List.length h; rw [dipsC_length, dipsC_length] at this; simp at this
  | d :: l, [], h => by have := congrArg List.length h; rw [dipsC_length, dipsC_length] at this; simp at this
  | d :: l, e :: m, h => by
    have h' : d.cells ++ dipsC l = e.cells ++ dipsC m := h
    obtain ⟨h1, h2⟩ := List.append_inj h' (by simp)
    rw [cells_inj h1, dipsC_inj h2]
def illC (x : DipC) (v : Int) : List AV := x.cells ++ [.int .i64 v]
@[simp] theorem illC_length (x : DipC) (v : Int) : (illC x v).length = 19 := by simp [illC]
theorem illC_frees (x : DipC) (v : Int) : AV.frees (illC x v) = true := frees_append x.cells_frees rfl
theorem illC_cell (x : DipC) (v : Int) : (illC x v).all AV.isCell = true := by simp [illC, List.all_append, cells_isCell]
theorem putC (x : DipC) (v : Int) : putCells [AV.bool false, AV.int IntKind.u8 0, AV.int IntKind.u8 0, AV.int IntKind.u8 0, AV.int IntKind.u8 0, AV.int IntKind.u8 0, AV.int IntKind.u8 0, AV.int IntKind.u8 0, AV.int IntKind.u8 0, AV.int IntKind.u8 0, AV.int IntKind.u8 0, AV.int IntKind.u8 0, AV.int IntKind.u8 0, AV.int IntKind.u8 0, AV.int IntKind.u8 0, AV.int IntKind.u8 0, AV.int IntKind.u8 0, AV.int IntKind.u16 0, AV.int IntKind.i64 0] 0 (illC x v) = illC x v := by
  rw [putCells_at _ _ _ (by rw [illC_length]; decide), List.take_zero, List.nil_append, illC_length]; exact List.append_nil _
theorem take_snoc {α : Type} {P : List α} {i : Nat} (h : i < P.length) : P.take (i + 1) = P.take i ++ [P[i]] := by
  rw [List.take_add_one, List.getElem?_eq_getElem h]; rfl
abbrev PL := List (DipC × Int)
def itP (P : PL) : List AV := P.flatMap fun p => illC p.1 p.2
@[simp] theorem itP_length : ∀ P : PL, (itP P).length = P.length * 19
  | [] => rfl
  | d :: P => by
    show (illC d.1 d.2 ++ itP P).length = _
    rw [List.length_append, illC_length, itP_length P, List.length_cons]; omega
theorem itP_frees : ∀ P : PL, AV.frees (itP P) = true
  | [] => rfl
  | d :: P => frees_append (illC_frees _ _) (itP_frees P)
theorem itP_drop : ∀ (P : PL) (i : Nat), (itP P).drop (i * 19) = itP (P.drop i)
  | [], i => by simp [itP]
  | d :: P, 0 => by simp
  | d :: P, i + 1 => by
    show List.drop ((i + 1) * 19) (illC d.1 d.2 ++ itP P) = itP (P.drop i)
    rw [List.drop_append, List.drop_of_length_le (by rw [illC_length]; omega), illC_length, show (i + 1) * 19 - 19 = i * 19 by omega, itP_drop P i]; rfl
theorem itP_19 {P : PL} {i : Nat} (h : i < P.length) : ((itP P).drop (i * 19)).take 19 = illC P[i].1 P[i].2 := by
  rw [itP_drop, List.drop_eq_getElem_cons h]
  show List.take 19 (illC P[i].1 P[i].2 ++ itP _) = _
  exact List.take_left' (by simp)
theorem itP_18 {P : PL} {i : Nat} (h : i < P.length) : ((itP P).drop (i * 19)).take 18 = P[i].1.cells := by
  have e : ((itP P).drop (i * 19)).take 18 = (((itP P).drop (i * 19)).take 19).take 18 := by rw [List.take_take]; rfl
  rw [e, itP_19 h]
  exact List.take_left' (by simp)
theorem itP_n {P : PL} {i : Nat} (h : i < P.length) : (itP P)[i * 19 + 18]? = some (.int .i64 P[i].2) := by
  have e : (itP P)[i * 19 + 18]? = (((itP P).drop (i * 19)).take 19)[18]? := by rw [List.getElem?_take, if_pos (by omega), List.getElem?_drop]
  rw [e, itP_19 h]
  unfold illC
  rw [List.getElem?_append_right (by simp)]
  simp
theorem itP_inj : ∀ {P Q : PL}, itP P = itP Q → P = Q
  | [], [], _ => rfl
  | [], d :: m, h => by have := congrArg List.length h; rw [itP_length, itP_length] at this; simp at this
  | d :: l, [], h => by have := congrArg List.length h; rw [itP_length, itP_length] at this; simp at this
  | d :: l, e :: m, h => by
    have h' : illC d.1 d.2 ++ itP l = illC e.1 e.2 ++ itP m := h
    obtain ⟨h1, h2⟩ := List.append_inj h' (by simp)
    unfold illC at h1
    obtain ⟨h3, h4⟩ := List.append_inj h1 (by simp)
    have h5 := cells_inj h3
    injection h4 with h4
    injection h4 with _ h4
    rw [itP_inj h2, show d = e from Prod.ext h5 h4]
noncomputable def plOf (C : List AV) : PL := @dite _ (∃ l, C = itP l) (Classical.propDecidable _) (fun h => Classical.choose h) fun _ => []
theorem plOf_eq (l : PL) : plOf (itP l) = l := by
  unfold plOf
  have h : ∃ m, itP l = itP m := ⟨l, rfl⟩
  rw [dif_pos h]
  exact (itP_inj (Classical.choose_spec h)).symm

end Go.Proofs.Ytlppbeoiphglcaa.L
