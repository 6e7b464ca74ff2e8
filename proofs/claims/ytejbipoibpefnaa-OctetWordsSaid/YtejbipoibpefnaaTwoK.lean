/- bazaarlaw1's two: its contract. -/
import Derived.Test.YtejbipoibpefnaaTwoN
import Derived.Test.YtejbipoibpefnaaGcKit
import Derived.Test.YtejbipoibpefnaaAddrB
set_option autoImplicit false
set_option maxRecDepth 100000
set_option linter.unusedVariables false
set_option linter.unusedSimpArgs false
namespace Go.Proofs.Ytejbipoibpefnaa.L
open Go Go.Abs

def atsI (n : Nat) : List Int := (List.range n).map fun i : Nat => 2 * (i : Int)
def wdsI (l : List UInt8) (n : Nat) : List Int := (List.range n).map fun i : Nat => word l (2 * i)
@[simp] theorem atsI_length (n : Nat) : (atsI n).length = n := by simp [atsI]
@[simp] theorem wdsI_length (l : List UInt8) (n : Nat) : (wdsI l n).length = n := by simp [wdsI]
theorem atsI_succ (n : Nat) : atsI (n + 1) = atsI n ++ [2 * (n : Int)] := by simp [atsI, List.range_succ]
theorem wdsI_succ (l : List UInt8) (n : Nat) : wdsI l (n + 1) = wdsI l n ++ [word l (2 * n)] := by simp [wdsI, List.range_succ]
def atA (n : Nat) : List AV := (atsI n).map (AV.int .i64)
def wdA (l : List UInt8) (n : Nat) : List AV := (wdsI l n).map (AV.int .u16)
def cntW (l : List UInt8) (m : Int) : Nat := if m < 0 then (l.length + 1) / 2 else min m.toNat ((l.length + 1) / 2)
noncomputable def stW (l : List UInt8) (m : Int) : Nat → List AV × AHeap
  | 0 => (vW 0, h2N l m .ready none)
  | i + 1 => (vW (2 * ((i + 1 : Nat) : Int)), h2S l m (i + 1) (atA (i + 1)) (wdA l (i + 1)) .ready none)
theorem keep8 {k k2 : Nat} (i : Nat) (hi : i < 6) : posOf [0, 1, 2, 3, 4, 5, k, k2] i = some i := by
  rcases (by omega : i = 0 ∨ i = 1 ∨ i = 2 ∨ i = 3 ∨ i = 4 ∨ i = 5) with rfl | rfl | rfl | rfl | rfl | rfl <;> rfl
theorem frees_at (n : Nat) : AV.frees (atA n) = true := frees_ints _
theorem frees_wd (l : List UInt8) (n : Nat) : AV.frees (wdA l n) = true := frees_ints _

theorem wordV0 {l : List UInt8} {i : Nat} (h2 : 2 * i + 1 < l.length) : abits IntKind.u16 (· ||| ·) (IntKind.u16.wrap (IntKind.u16.wrap (intV (bys l)[2 * i]?) * 256)) (IntKind.u16.wrap (intV (bys l)[2 * i + 1]?)) = word l (2 * i) := by
  have r1 := byt_range l (2 * i)
  have r2 := byt_range l (2 * i + 1)
  rw [bys_get, bys_get, intV_byte, intV_byte]
  exact or16w r1 r2
theorem wordV1 {l : List UInt8} {i : Nat} (h2 : 2 * i + 1 = l.length) : IntKind.u16.wrap (IntKind.u16.wrap (intV (bys l)[2 * i]?) * 256) = word l (2 * i) := by
  have r1 := byt_range l (2 * i)
  have r2 := byt_range l (2 * i + 1)
  have z : byt l (2 * i + 1) = 0 := byt_ge (by omega)
  rw [bys_get, intV_byte, wrapU16 (n := byt l (2 * i)) (by omega), wrapU16 (n := byt l (2 * i) * 256) (by omega)]
  unfold word; omega
theorem isB {l : List UInt8} {i : Nat} (h : i < l.length) : isIntV IntKind.u8 (bys l)[i]? = true := by rw [bys_get, isIntV_byte]; exact decide_eq_true h

theorem stepW00 {l : List UInt8} {m : Int} (hl : l.length ≤ 1000000) {i : Nat} (hi : i = 0) (h2 : 2 * i + 1 < l.length) (hm : m ≠ 0) :
    ∃ vs1 h1, qround Try.prog [] 100 4 [(8, .bool true), (21, .bool true), (34, .bool false)] noT WL mWords (vW 0) (h2N l m .ready none) = some (.norm, vs1, h1) ∧ Gc 6 vs1 h1 (stW l m 1).1 (stW l m 1).2 := by
  have hz : (0 : Int) = 2 * (i : Int) := by omega
  rw [hz, nfW00]
  have e0 : 0 + (2 * (i : Int)).toNat * 1 = 2 * i := by omega
  have e1 : IntKind.i64.wrap (2 * (i : Int) + 1) = 2 * i + 1 := wrapI64 (by omega)
  have e2 : 0 + (2 * (i : Int) + 1).toNat * 1 = 2 * i + 1 := by omega
  have e3 : IntKind.i64.wrap (2 * (i : Int) + 2) = 2 * ((i + 1 : Nat) : Int) := by rw [wrapI64 (by omega)]; omega
  have w0 := wordV0 h2
  refine ⟨?_, ?_, ?_, ?_⟩
  rotate_left 2
  · refine (if_pos (by simp; omega)).trans ?_
    refine (if_pos (by omega)).trans ?_
    rw [e0]
    refine (if_pos (isB (by omega))).trans ?_
    rw [e1]
    refine (if_pos (by simp; omega)).trans ?_
    refine (if_pos (by omega)).trans ?_
    rw [e2]
    refine (if_pos (isB (by omega))).trans ?_
    refine (if_neg (by simp [intV]; omega)).trans ?_
    rfl
  · unfold hW000
    rw [e0, e1, e2, e3, w0]
    subst hi
    refine Gc.by [0, 1, 2, 3, 4, 5, 7, 9] rfl (by decide) (ARs.same keep8 rfl) (.cons _ _ _ _ _ rfl (.row (by simp) (by simp)) (.cons _ _ _ _ _ rfl (.row rfl (by simp)) (.cons _ _ _ _ _ rfl (.cells _ _ _ _ _ _ (.cons _ _ _ _ (.sl _ _ _ _ _ _ rfl) .nil) (by simp)) (.cons _ _ _ _ _ rfl (.cells _ _ _ _ _ _ (.cons _ _ _ _ (.sl _ _ _ _ _ _ rfl) .nil) (by simp)) (.cons _ _ _ _ _ rfl (BR.keep keep8 rfl) (.cons _ _ _ _ _ rfl (BR.lpSame keep8 rfl) (.cons _ _ _ _ _ rfl (.row rfl (by simp)) (.cons _ _ _ _ _ rfl (.row rfl (by simp)) .nil))))))))

theorem stepW10 {l : List UInt8} {m : Int} (hl : l.length ≤ 1000000) {i : Nat} (h2 : 2 * i + 1 < l.length) (hm : m ≠ i) :
    ∃ vs1 h1, qround Try.prog [] 100 4 [(8, .bool true), (21, .bool true), (34, .bool false)] noT WL mWords (vW (2 * (i : Int))) (h2S l m i (atA i) (wdA l i) .ready none) = some (.norm, vs1, h1) ∧ Gc 6 vs1 h1 (stW l m (i + 1)).1 (stW l m (i + 1)).2 := by
  rw [nfW10]
  have e0 : 0 + (2 * (i : Int)).toNat * 1 = 2 * i := by omega
  have e1 : IntKind.i64.wrap (2 * (i : Int) + 1) = 2 * i + 1 := wrapI64 (by omega)
  have e2 : 0 + (2 * (i : Int) + 1).toNat * 1 = 2 * i + 1 := by omega
  have e3 : IntKind.i64.wrap (2 * (i : Int) + 2) = 2 * ((i + 1 : Nat) : Int) := by rw [wrapI64 (by omega)]; omega
  have w0 := wordV0 h2
  have la : (atA i).length = i := by simp [atA]
  have lw : (wdA l i).length = i := by simp [wdA]
  have ta : (atA i).take (i * 1) = atA i := List.take_of_length_le (by omega)
  have tw : (wdA l i).take (i * 1) = wdA l i := List.take_of_length_le (by omega)
  refine ⟨?_, ?_, ?_, ?_⟩
  rotate_left 2
  · refine (if_pos (by simp; omega)).trans ?_
    refine (if_pos (by omega)).trans ?_
    rw [e0]
    refine (if_pos (isB (by omega))).trans ?_
    rw [e1]
    refine (if_pos (by simp; omega)).trans ?_
    refine (if_pos (by omega)).trans ?_
    rw [e2]
    refine (if_pos (isB (by omega))).trans ?_
    refine (if_neg (by simp [intV]; omega)).trans ?_
    refine (if_pos ⟨by omega, rfl, by omega⟩).trans ?_
    refine (if_pos (by omega)).trans ?_
    refine (if_pos ⟨rfl, by omega, by omega, rfl, rfl⟩).trans ?_
    refine (if_pos ⟨by omega, rfl, by omega⟩).trans ?_
    refine (if_pos (by omega)).trans ?_
    refine (if_pos ⟨rfl, by omega, by omega, rfl, rfl⟩).trans ?_
    refine (if_pos (AV.beq_self _)).trans ?_
    refine (if_pos (AV.beq_self _)).trans ?_
    rfl
  · unfold hW100
    rw [e0, e1, e2, e3, w0]
    have ea : atA (i + 1) = (atA i).take (i * 1) ++ [.int .i64 (2 * (i : Int))] := by rw [ta]; simp [atA, atsI_succ]
    have ew : wdA l (i + 1) = (wdA l i).take (i * 1) ++ [.int .u16 (word l (2 * i))] := by rw [tw]; simp [wdA, wdsI_succ]
    show Gc 6 _ _ (vW (2 * ((i + 1 : Nat) : Int))) (h2S l m (i + 1) (atA (i + 1)) (wdA l (i + 1)) .ready none)
    have fa := frees_at (i + 1)
    have fw := frees_wd l (i + 1)
    rw [ea, ew] at *
    refine Gc.by [0, 1, 2, 3, 4, 5, 9, 11] rfl (by decide) (ARs.same keep8 rfl) (.cons _ _ _ _ _ rfl (.row (by simp) (by simp)) (.cons _ _ _ _ _ rfl (.row rfl (by simp)) (.cons _ _ _ _ _ rfl (.cells _ _ _ _ _ _ (.cons _ _ _ _ (.sl _ _ _ _ _ _ rfl) .nil) (by simp)) (.cons _ _ _ _ _ rfl (.cells _ _ _ _ _ _ (.cons _ _ _ _ (.sl _ _ _ _ _ _ rfl) .nil) (by simp)) (.cons _ _ _ _ _ rfl (BR.keep keep8 rfl) (.cons _ _ _ _ _ rfl (BR.lpSame keep8 rfl) (.cons _ _ _ _ _ rfl (BR.grown fa rfl) (.cons _ _ _ _ _ rfl (BR.grown fw rfl) .nil))))))))

theorem brkW00 {l : List UInt8} (hl : l.length ≤ 1000000) {i : Nat} (hi : i = 0) (h2 : 2 * i + 1 < l.length) :
    qround Try.prog [] 100 4 [(8, .bool true), (21, .bool true), (34, .bool true)] noT WL mWords (vW 0) (h2N l 0 .ready none) = some (.ret, vW 0, h2N l 0 .done (some (.exit 0))) := by
  have hz : (0 : Int) = 2 * (i : Int) := by omega
  rw [show vW 0 = vW (2 * (i : Int)) by rw [← hz], nfW0b0]
  have e0 : 0 + (2 * (i : Int)).toNat * 1 = 2 * i := by omega
  have e1 : IntKind.i64.wrap (2 * (i : Int) + 1) = 2 * i + 1 := wrapI64 (by omega)
  have e2 : 0 + (2 * (i : Int) + 1).toNat * 1 = 2 * i + 1 := by omega
  have e3 : IntKind.i64.wrap (2 * (i : Int) + 2) = 2 * ((i + 1 : Nat) : Int) := by rw [wrapI64 (by omega)]; omega
  refine (if_pos (by simp; omega)).trans ?_
  refine (if_pos (by omega)).trans ?_
  rw [e0]
  refine (if_pos (isB (by omega))).trans ?_
  rw [e1]
  refine (if_pos (by simp; omega)).trans ?_
  refine (if_pos (by omega)).trans ?_
  rw [e2]
  refine (if_pos (isB (by omega))).trans ?_
  exact if_pos rfl

theorem brkW10 {l : List UInt8} (hl : l.length ≤ 1000000) {i : Nat} (h2 : 2 * i + 1 < l.length) :
    qround Try.prog [] 100 4 [(8, .bool true), (21, .bool true), (34, .bool true)] noT WL mWords (vW (2 * (i : Int))) (h2S l i i (atA i) (wdA l i) .ready none) = some (.ret, vW (2 * (i : Int)), h2S l i i (atA i) (wdA l i) .done (some (.exit 0))) := by
  rw [nfW1b0]
  have e0 : 0 + (2 * (i : Int)).toNat * 1 = 2 * i := by omega
  have e1 : IntKind.i64.wrap (2 * (i : Int) + 1) = 2 * i + 1 := wrapI64 (by omega)
  have e2 : 0 + (2 * (i : Int) + 1).toNat * 1 = 2 * i + 1 := by omega
  have e3 : IntKind.i64.wrap (2 * (i : Int) + 2) = 2 * ((i + 1 : Nat) : Int) := by rw [wrapI64 (by omega)]; omega
  refine (if_pos (by simp; omega)).trans ?_
  refine (if_pos (by omega)).trans ?_
  rw [e0]
  refine (if_pos (isB (by omega))).trans ?_
  rw [e1]
  refine (if_pos (by simp; omega)).trans ?_
  refine (if_pos (by omega)).trans ?_
  rw [e2]
  refine (if_pos (isB (by omega))).trans ?_
  exact if_pos (by simp [intV])

theorem stepW01 {l : List UInt8} {m : Int} (hl : l.length ≤ 1000000) {i : Nat} (hi : i = 0) (h2 : 2 * i + 1 = l.length) (hm : m ≠ 0) :
    ∃ vs1 h1, qround Try.prog [] 100 4 [(8, .bool true), (21, .bool false), (34, .bool false)] noT WL mWords (vW 0) (h2N l m .ready none) = some (.norm, vs1, h1) ∧ Gc 6 vs1 h1 (stW l m 1).1 (stW l m 1).2 := by
  have hz : (0 : Int) = 2 * (i : Int) := by omega
  rw [hz, nfW01]
  have e0 : 0 + (2 * (i : Int)).toNat * 1 = 2 * i := by omega
  have e1 : IntKind.i64.wrap (2 * (i : Int) + 1) = 2 * i + 1 := wrapI64 (by omega)
  have e2 : 0 + (2 * (i : Int) + 1).toNat * 1 = 2 * i + 1 := by omega
  have e3 : IntKind.i64.wrap (2 * (i : Int) + 2) = 2 * ((i + 1 : Nat) : Int) := by rw [wrapI64 (by omega)]; omega
  have w0 := wordV1 h2
  refine ⟨?_, ?_, ?_, ?_⟩
  rotate_left 2
  · refine (if_pos (by simp; omega)).trans ?_
    refine (if_pos (by omega)).trans ?_
    rw [e0]
    refine (if_pos (isB (by omega))).trans ?_
    rw [e1]
    refine (if_pos (by simp; omega)).trans ?_
    refine (if_neg (by simp [intV]; omega)).trans ?_
    rfl
  · unfold hW010
    rw [e0, e3, w0]
    subst hi
    refine Gc.by [0, 1, 2, 3, 4, 5, 7, 9] rfl (by decide) (ARs.same keep8 rfl) (.cons _ _ _ _ _ rfl (.row (by simp) (by simp)) (.cons _ _ _ _ _ rfl (.row rfl (by simp)) (.cons _ _ _ _ _ rfl (.cells _ _ _ _ _ _ (.cons _ _ _ _ (.sl _ _ _ _ _ _ rfl) .nil) (by simp)) (.cons _ _ _ _ _ rfl (.cells _ _ _ _ _ _ (.cons _ _ _ _ (.sl _ _ _ _ _ _ rfl) .nil) (by simp)) (.cons _ _ _ _ _ rfl (BR.keep keep8 rfl) (.cons _ _ _ _ _ rfl (BR.lpSame keep8 rfl) (.cons _ _ _ _ _ rfl (.row rfl (by simp)) (.cons _ _ _ _ _ rfl (.row rfl (by simp)) .nil))))))))

theorem stepW11 {l : List UInt8} {m : Int} (hl : l.length ≤ 1000000) {i : Nat} (h2 : 2 * i + 1 = l.length) (hm : m ≠ i) :
    ∃ vs1 h1, qround Try.prog [] 100 4 [(8, .bool true), (21, .bool false), (34, .bool false)] noT WL mWords (vW (2 * (i : Int))) (h2S l m i (atA i) (wdA l i) .ready none) = some (.norm, vs1, h1) ∧ Gc 6 vs1 h1 (stW l m (i + 1)).1 (stW l m (i + 1)).2 := by
  rw [nfW11]
  have e0 : 0 + (2 * (i : Int)).toNat * 1 = 2 * i := by omega
  have e1 : IntKind.i64.wrap (2 * (i : Int) + 1) = 2 * i + 1 := wrapI64 (by omega)
  have e2 : 0 + (2 * (i : Int) + 1).toNat * 1 = 2 * i + 1 := by omega
  have e3 : IntKind.i64.wrap (2 * (i : Int) + 2) = 2 * ((i + 1 : Nat) : Int) := by rw [wrapI64 (by omega)]; omega
  have w0 := wordV1 h2
  have la : (atA i).length = i := by simp [atA]
  have lw : (wdA l i).length = i := by simp [wdA]
  have ta : (atA i).take (i * 1) = atA i := List.take_of_length_le (by omega)
  have tw : (wdA l i).take (i * 1) = wdA l i := List.take_of_length_le (by omega)
  refine ⟨?_, ?_, ?_, ?_⟩
  rotate_left 2
  · refine (if_pos (by simp; omega)).trans ?_
    refine (if_pos (by omega)).trans ?_
    rw [e0]
    refine (if_pos (isB (by omega))).trans ?_
    rw [e1]
    refine (if_pos (by simp; omega)).trans ?_
    refine (if_neg (by simp [intV]; omega)).trans ?_
    refine (if_pos ⟨by omega, rfl, by omega⟩).trans ?_
    refine (if_pos (by omega)).trans ?_
    refine (if_pos ⟨rfl, by omega, by omega, rfl, rfl⟩).trans ?_
    refine (if_pos ⟨by omega, rfl, by omega⟩).trans ?_
    refine (if_pos (by omega)).trans ?_
    refine (if_pos ⟨rfl, by omega, by omega, rfl, rfl⟩).trans ?_
    refine (if_pos (AV.beq_self _)).trans ?_
    refine (if_pos (AV.beq_self _)).trans ?_
    rfl
  · unfold hW110
    rw [e0, e3, w0]
    have ea : atA (i + 1) = (atA i).take (i * 1) ++ [.int .i64 (2 * (i : Int))] := by rw [ta]; simp [atA, atsI_succ]
    have ew : wdA l (i + 1) = (wdA l i).take (i * 1) ++ [.int .u16 (word l (2 * i))] := by rw [tw]; simp [wdA, wdsI_succ]
    show Gc 6 _ _ (vW (2 * ((i + 1 : Nat) : Int))) (h2S l m (i + 1) (atA (i + 1)) (wdA l (i + 1)) .ready none)
    have fa := frees_at (i + 1)
    have fw := frees_wd l (i + 1)
    rw [ea, ew] at *
    refine Gc.by [0, 1, 2, 3, 4, 5, 9, 11] rfl (by decide) (ARs.same keep8 rfl) (.cons _ _ _ _ _ rfl (.row (by simp) (by simp)) (.cons _ _ _ _ _ rfl (.row rfl (by simp)) (.cons _ _ _ _ _ rfl (.cells _ _ _ _ _ _ (.cons _ _ _ _ (.sl _ _ _ _ _ _ rfl) .nil) (by simp)) (.cons _ _ _ _ _ rfl (.cells _ _ _ _ _ _ (.cons _ _ _ _ (.sl _ _ _ _ _ _ rfl) .nil) (by simp)) (.cons _ _ _ _ _ rfl (BR.keep keep8 rfl) (.cons _ _ _ _ _ rfl (BR.lpSame keep8 rfl) (.cons _ _ _ _ _ rfl (BR.grown fa rfl) (.cons _ _ _ _ _ rfl (BR.grown fw rfl) .nil))))))))

theorem brkW01 {l : List UInt8} (hl : l.length ≤ 1000000) {i : Nat} (hi : i = 0) (h2 : 2 * i + 1 = l.length) :
    qround Try.prog [] 100 4 [(8, .bool true), (21, .bool false), (34, .bool true)] noT WL mWords (vW 0) (h2N l 0 .ready none) = some (.ret, vW 0, h2N l 0 .done (some (.exit 0))) := by
  have hz : (0 : Int) = 2 * (i : Int) := by omega
  rw [show vW 0 = vW (2 * (i : Int)) by rw [← hz], nfW0b1]
  have e0 : 0 + (2 * (i : Int)).toNat * 1 = 2 * i := by omega
  have e1 : IntKind.i64.wrap (2 * (i : Int) + 1) = 2 * i + 1 := wrapI64 (by omega)
  have e2 : 0 + (2 * (i : Int) + 1).toNat * 1 = 2 * i + 1 := by omega
  have e3 : IntKind.i64.wrap (2 * (i : Int) + 2) = 2 * ((i + 1 : Nat) : Int) := by rw [wrapI64 (by omega)]; omega
  refine (if_pos (by simp; omega)).trans ?_
  refine (if_pos (by omega)).trans ?_
  rw [e0]
  refine (if_pos (isB (by omega))).trans ?_
  rw [e1]
  refine (if_pos (by simp; omega)).trans ?_
  exact if_pos rfl

theorem brkW11 {l : List UInt8} (hl : l.length ≤ 1000000) {i : Nat} (h2 : 2 * i + 1 = l.length) :
    qround Try.prog [] 100 4 [(8, .bool true), (21, .bool false), (34, .bool true)] noT WL mWords (vW (2 * (i : Int))) (h2S l i i (atA i) (wdA l i) .ready none) = some (.ret, vW (2 * (i : Int)), h2S l i i (atA i) (wdA l i) .done (some (.exit 0))) := by
  rw [nfW1b1]
  have e0 : 0 + (2 * (i : Int)).toNat * 1 = 2 * i := by omega
  have e1 : IntKind.i64.wrap (2 * (i : Int) + 1) = 2 * i + 1 := wrapI64 (by omega)
  have e2 : 0 + (2 * (i : Int) + 1).toNat * 1 = 2 * i + 1 := by omega
  have e3 : IntKind.i64.wrap (2 * (i : Int) + 2) = 2 * ((i + 1 : Nat) : Int) := by rw [wrapI64 (by omega)]; omega
  refine (if_pos (by simp; omega)).trans ?_
  refine (if_pos (by omega)).trans ?_
  rw [e0]
  refine (if_pos (isB (by omega))).trans ?_
  rw [e1]
  refine (if_pos (by simp; omega)).trans ?_
  exact if_pos (by simp [intV])


theorem loopWe {l : List UInt8} {m : Int} {n : Nat} (hl : l.length ≤ 1000000) (hn : n = (l.length + 1) / 2) (hm : ∀ i : Nat, i < n → m ≠ i) : ∃ k, GReach (roundG Try.prog (deepT Try.prog [] 100 4) (lsT noT) WL mWords) 6 k (vW 0) (h2N l m .ready none) (.exit 0) (vW (2 * (n : Int))) (stW l m n).2 := by
  refine loop_T (stW l m) (N := n) (by simp) (fun i hi => ?_) ?_
  · have hm' := hm i hi
    cases i with
    | zero =>
      rcases (by omega : 2 * 0 + 1 < l.length ∨ 2 * 0 + 1 = l.length) with h2 | h2
      · exact ⟨_, stepW00 hl rfl h2 hm'⟩
      · exact ⟨_, stepW01 hl rfl h2 hm'⟩
    | succ i =>
      rcases (by omega : 2 * (i + 1) + 1 < l.length ∨ 2 * (i + 1) + 1 = l.length) with h2 | h2
      · exact ⟨_, stepW10 hl h2 hm'⟩
      · exact ⟨_, stepW11 hl h2 hm'⟩
  · cases n with
    | zero => exact ⟨_, _, _, (nfW0s l m 0).trans (if_pos (decide_eq_false (by omega))), Gc.refl⟩
    | succ n => exact ⟨_, _, _, (nfW1s l m (2 * ((n + 1 : Nat) : Int)) (n + 1) (atA (n + 1)) (wdA l (n + 1))).trans (if_pos (by simp; omega)), Gc.refl⟩
theorem loopWb {l : List UInt8} {n : Nat} (hl : l.length ≤ 1000000) (hn : n < (l.length + 1) / 2) : ∃ k, GReach (roundG Try.prog (deepT Try.prog [] 100 4) (lsT noT) WL mWords) 6 k (vW 0) (h2N l n .ready none) .ret (vW (2 * (n : Int))) (match n with | 0 => h2N l n .done (some (.exit 0)) | i + 1 => h2S l n (i + 1) (atA (i + 1)) (wdA l (i + 1)) .done (some (.exit 0))) := by
  refine loop_T (stW l n) (N := n) (by simp) (fun i hi => ?_) ?_
  · have hm' : (n : Int) ≠ (i : Int) := by omega
    cases i with
    | zero =>
      rcases (by omega : 2 * 0 + 1 < l.length ∨ 2 * 0 + 1 = l.length) with h2 | h2
      · exact ⟨_, stepW00 hl rfl h2 hm'⟩
      · exact ⟨_, stepW01 hl rfl h2 hm'⟩
    | succ i =>
      rcases (by omega : 2 * (i + 1) + 1 < l.length ∨ 2 * (i + 1) + 1 = l.length) with h2 | h2
      · exact ⟨_, stepW10 hl h2 hm'⟩
      · exact ⟨_, stepW11 hl h2 hm'⟩
  · cases n with
    | zero =>
      rcases (by omega : 2 * 0 + 1 < l.length ∨ 2 * 0 + 1 = l.length) with h2 | h2
      · exact ⟨_, _, _, brkW00 hl rfl h2, Gc.refl⟩
      · exact ⟨_, _, _, brkW01 hl rfl h2, Gc.refl⟩
    | succ n =>
      rcases (by omega : 2 * (n + 1) + 1 < l.length ∨ 2 * (n + 1) + 1 = l.length) with h2 | h2
      · exact ⟨_, _, _, brkW10 hl h2, Gc.refl⟩
      · exact ⟨_, _, _, brkW11 hl h2, Gc.refl⟩

theorem lpW : loopsOf (bodyOf Try.prog 33) = [WL] := by kernel_rfl
theorem runWe {h0 h1 : AHeap} {p : Int} (hl : h0.length = 6) (H : ∃ k, GReach (roundG Try.prog (deepT Try.prog [] 100 4) (lsT noT) WL mWords) 6 k (vW 0) h0 (.exit 0) (vW p) h1) : Runs Try.prog 33 [.fn (.yield 5) [], .ptr (some (4, 0))] h0 (.tup []) h1 :=
  Runs.ofT (find_nil _) (F := 100) (n := 4) (pr := []) (only (k := 1) lpW (fixL_T (find_nil _) (F := 100) (n := 4) (LS := noT) (noLoops (by kernel_rfl)) H hl)) ((nfWNe [] h0 h1 p _).trans (if_pos (cdec_true.2 ⟨rfl, rfl⟩)))
theorem runWb {h0 h1 : AHeap} {p : Int} (hl : h0.length = 6) (H : ∃ k, GReach (roundG Try.prog (deepT Try.prog [] 100 4) (lsT noT) WL mWords) 6 k (vW 0) h0 .ret (vW p) h1) : Runs Try.prog 33 [.fn (.yield 5) [], .ptr (some (4, 0))] h0 (.tup []) h1 :=
  Runs.ofT (find_nil _) (F := 100) (n := 4) (pr := []) (only (k := 1) lpW (fixL_T (find_nil _) (F := 100) (n := 4) (LS := noT) (noLoops (by kernel_rfl)) H hl)) ((nfWNb [] h0 h1 p _).trans (if_pos (cdec_true.2 ⟨rfl, rfl⟩)))

theorem runTwo {l : List UInt8} {m : Int} (hl : l.length ≤ 1000000) (hm : -1 ≤ m) : ∃ v h', Runs Try.prog 22 [slB 0 l, .int .i64 m] [farB l] v h' ∧ ∃ ks, (∀ K, Den h' 1 K ks v (.tup [.sl (some (K, 0)) (cntW l m) 0 false, .sl (some (K + 1, 0)) (cntW l m) 0 false]) [.cells (atA (cntW l m)) 1 .own none, .cells (wdA l (cntW l m)) 1 .own none]) ∧ KsOk ks := by
  have z : ∀ {h' : AHeap} (e : Bool) (K : Nat), Den h' 1 K ([none] ++ ([none] ++ [])) (.tup [.sl none 0 0 e, .sl none 0 0 e]) (.tup [.sl (some (K, 0)) 0 0 false, .sl (some (K + 1, 0)) 0 0 false]) [.cells (atA 0) 1 .own none, .cells (wdA l 0) 1 .own none] :=
    fun e K => .tup _ _ _ _ _ (.cons _ _ _ _ _ _ _ _ _ (.nil K e 1) (.cons _ _ _ _ _ _ _ _ _ (.nil (K + 1) e 1) (.nil _)))
  have s : ∀ {h' : AHeap} (i K : Nat), h'[6]? = some (.cells (atA i) 1 .own none) → h'[7]? = some (.cells (wdA l i) 1 .own none) → Den h' 1 K ([some 6] ++ ([some 7] ++ [])) (.tup [.sl (some (6, 0)) i 0 false, .sl (some (7, 0)) i 0 false]) (.tup [.sl (some (K, 0)) i 0 false, .sl (some (K + 1, 0)) i 0 false]) [.cells (atA i) 1 .own none, .cells (wdA l i) 1 .own none] :=
    fun i K h6 h7 => .tup _ _ _ _ _ (.cons _ _ _ _ _ _ _ _ _ (denRow (by omega) h6 (by simp [atA]) (frees_at i)) (.cons _ _ _ _ _ _ _ _ _ (denRow (by omega) h7 (by simp [wdA]) (frees_wd l i)) (.nil _)))
  by_cases hb : 0 ≤ m ∧ m.toNat < (l.length + 1) / 2
  · obtain ⟨n, rfl⟩ := Int.eq_ofNat_of_zero_le hb.1
    have hc : cntW l n = n := by unfold cntW; rw [if_neg (by omega)]; omega
    have L := loopWb (n := n) hl (by omega)
    rw [hc]
    cases n with
    | zero =>
      have R := runWb rfl L
      exact ⟨_, _, Runs.ofT0 (find_cons (fixE_sound R) (find_nil _)) (F := 100) (n := 4) (pr := []) ((nfTwo0b l _ _).trans (if_pos (cdec_true.2 ⟨rfl, rfl⟩))), _, z true, ksOkNo2⟩
    | succ n =>
      have R := runWb rfl L
      exact ⟨_, _, Runs.ofT0 (find_cons (fixE_sound R) (find_nil _)) (F := 100) (n := 4) (pr := []) ((nfTwo1b l _ _ _ _ _).trans (if_pos (cdec_true.2 ⟨rfl, rfl⟩))), _, fun K => s (n + 1) K rfl rfl, ksOkN2 (by decide)⟩
  · have hc : cntW l m = (l.length + 1) / 2 := by unfold cntW; split <;> omega
    have L := loopWe (m := m) (n := (l.length + 1) / 2) hl rfl (fun i hi => by omega)
    rw [hc]
    generalize (l.length + 1) / 2 = n at L
    cases n with
    | zero =>
      have R := runWe rfl L
      exact ⟨_, _, Runs.ofT0 (find_cons (fixE_sound R) (find_nil _)) (F := 100) (n := 4) (pr := []) ((nfTwo0e l _ _).trans (if_pos (cdec_true.2 ⟨rfl, rfl⟩))), _, z true, ksOkNo2⟩
    | succ n =>
      have R := runWe rfl L
      exact ⟨_, _, Runs.ofT0 (find_cons (fixE_sound R) (find_nil _)) (F := 100) (n := 4) (pr := []) ((nfTwo1e l _ _ _ _ _).trans (if_pos (cdec_true.2 ⟨rfl, rfl⟩))), _, fun K => s (n + 1) K rfl rfl, ksOkN2 (by decide)⟩

inductive TwoR : List AV → AHeap → AV → AHeap → Prop
  | mk (l : List UInt8) (m : Int) (h : AHeap) (a : AV) (k : Nat) (g : bOk h a = true ∧ bOf h a = l) (hl : l.length ≤ 1000000) (hm : -1 ≤ m) (n : Nat) (hn : cntW l m = n) (hk : h.length = k) :
      TwoR [a, .int .i64 m] h (.tup [.sl (some (k, 0)) n 0 false, .sl (some (k + 1, 0)) n 0 false]) [.cells (atA n) 1 .own none, .cells (wdA l n) 1 .own none]
theorem sTwo (L : List (Nat × AV × AHeap)) : SoundE Try.prog 22 (entF (eRel TwoR L)) := by
  refine relR_sound (fun args h v new hR => ?_) L
  cases hR with
  | mk l m _ a k g hl hm n hn hk =>
  subst hk hn
  obtain ⟨gb, rfl⟩ := g
  obtain ⟨v1, h2, hr, ks, hd, hk⟩ := runTwo hl hm
  exact ⟨[slB 0 (bOf h a), .int .i64 m], [farB (bOf h a)], .cons _ _ _ _ _ _ _ (bOk_canon gb 0) (.cons _ _ _ _ _ _ _ (.flat _ _ rfl) (.nil _)), v1, h2, hr, ks, hd _, hk⟩


end Go.Proofs.Ytejbipoibpefnaa.L
